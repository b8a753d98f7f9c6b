/-
  A packet with V6, read.
-/
import Derived.Test.YtcdfmgkcadpgbaaEnds
namespace Go.Proofs.Ytcdfmgkcadpgbaa
open Go.RowKit

theorem Ext.drewN {a w : World} (h : Ext a w) (k : Nat) : Ext a (w.drewN k) := ⟨h.os, h.tape, h.output, h.size, h.block⟩
/-- the empty packet -/
def pkZ : Value := pkV ⟨false, 0, 0⟩ ⟨false, 0, 0⟩ 0 0 (.slice none 0 0)
def pkZC : Array Value := pkC ⟨false, 0, 0⟩ ⟨false, 0, 0⟩ 0 0 (.slice none 0 0)

theorem short_end {w : World} {a : Act} (hs : a.tmps.getD 2 undef = .pointer (some ⟨w.heap.size, 0, none⟩)) (hu : a.tmps.getD 3 undef = .int .i64 4) (hd : a.defers = []) {w' : World} (hE : Ext w w') (hb : Blk w' w.heap.size 34 pkZC) :
    bodyPost Try.prog Try.f39 (fun e w' => e = .returned (.tuple #[pkZ, .int .i64 4]) ∧ Ext w w') .ret a w' :=
  bodyPost_ret (results_pk rfl hs hb hu) hd ⟨rfl, hE⟩

set_option maxHeartbeats 2000000 in
theorem six_short (A : Option Addr) (n c : Nat) (w : World) (h : n < 40) :
    Calls Try.prog 39 #[.slice A n c] w (fun e w' => e = .returned (.tuple #[pkZ, .int .i64 4]) ∧ Ext w w') := by
  have hn : (n : Int) < 40 := by omega
  have hbl : Blk (w.alloc (.cells pkZC 34)) w.heap.size 34 pkZC := Blk.new _ _ _
  go_enter Try.func39, Try.ntmps39
  go_wp2_with fail
  exact short_end rfl rfl rfl ((Ext.refl w).alloc _) hbl

theorem short_end2 {w w1 : World} {a : Act} (hE : Ext w w1) (hb : Blk w1 w.heap.size 34 pkZC) (hs : a.tmps.getD 2 undef = .pointer (some ⟨w.heap.size, 0, none⟩)) (hu : a.tmps.getD 3 undef = .int .i64 4) (hd : a.defers = []) :
    bodyPost Try.prog Try.f39 (fun e w' => e = .returned (.tuple #[pkZ, .int .i64 4]) ∧ Ext w w') .ret a (set9 w1 w.heap.size (.bool false) (.int .u64 0) (.int .u64 0) (.bool false) (.int .u64 0) (.int .u64 0) (.int .i64 0) (.int .i64 0) (.slice none 0 0)) :=
  short_end hs hu hd (hE.keep (keep_set9 (X := (· = w.heap.size)) rfl _ _ _ _ _ _ _ _ _) (Nat.le_refl _)) (Blk.set9 hb _ _ _ _ _ _ _ _ _)

set_option maxHeartbeats 2000000 in
theorem six_cut (b off n c : Nat) (bs : List Int) (w : World) (hB : IsB bs) (hr : Reads w w.heap.size 1 (some ⟨b, off, none⟩) n (bytesV bs)) (hc : n ≤ c) (h40 : 40 ≤ n) (hx : (n : Int) < 40 + (gB bs 4 * 256 + gB bs 5)) :
    Calls Try.prog 39 #[.slice (some ⟨b, off, none⟩) n c] w (fun e w' => e = .returned (.tuple #[pkZ, .int .i64 4]) ∧ Ext w w') := by
  have hn : ¬ (n : Int) < 40 := by omega
  have hn4 : (4 : Int) ≤ (n : Int) := by omega
  have hc4 : ¬ c = 4 := by omega
  have hbl : Blk (w.alloc (.cells pkZC 34)) w.heap.size 34 pkZC := Blk.new _ _ _
  have hE0 : Ext w (w.alloc (.cells pkZC 34)) := (Ext.refl w).alloc _
  have g4 := hB.at 4
  have g5 := hB.at 5
  have hcn : (n : Int) ≤ (c : Int) := by omega
  have hr4 : Reads (w.alloc (.cells pkZC 34)) w.heap.size 1 (some ⟨b, off + 4, none⟩) (n - 4) (bytesV (bs.drop 4)) := (hr.below hE0).from (by omega)
  have hd0 : gB (bs.drop 4) 0 = gB bs 4 := by simp [gB, List.getElem?_drop]
  have hd1 : gB (bs.drop 4) 1 = gB bs 5 := by simp [gB, List.getElem?_drop]
  go_enter Try.func39, Try.ntmps39
  go_wp2_with fail
  refine (get_any _ _ _ w.heap.size (bs.drop 4) _ (by omega) (fun y hy => hB y (List.mem_of_mem_drop hy)) hr4).mono ?_
  rintro e w2 ⟨rfl, k, rfl⟩
  rw [hd0, hd1]
  have hb1 := hbl.drewN k
  have hE1 := Ext.drewN hE0 k
  generalize (w.alloc (.cells pkZC 34)).drewN k = w1 at *
  clear hbl hE0 hr4 hr hB
  obtain ⟨a0, a1, a2, a3, a4, a5, a6, a7, a8, af⟩ := pk_cells hb1
  have HB := Lib.hid hb1
  have HE := Lib.hid hE1
  clear hb1 hE1
  go_wp2_with fail
  exact short_end2 HE.out HB.out rfl rfl rfl

/-- a pointer to a new block of zeros -/
def Fact.zp (r0 : Nat) : Fact (fun _ => False) := ⟨fun x w => ∃ k, x = .pointer (some ⟨k, 0, none⟩) ∧ Blk w k 34 pkZC ∧ r0 < k, fun _ _ _ hk ⟨k, h1, h2, h3⟩ => ⟨k, h1, h2.kept hk (fun h => h), h3⟩⟩
def readF (b off n c r0 : Nat) (i j : Nat) (x y : Int) (v : Value) : List (Fact (fun _ => False)) :=
  [.is (.slice (some ⟨b, off, none⟩) n c), .is (.pointer (some ⟨b, off + i, none⟩)), .is (.int .u8 x), .is (.int .i64 x), .is (.slice (some ⟨b, off, none⟩) n c), .is (.pointer (some ⟨b, off + j, none⟩)), .is (.int .u8 y), .is (.int .i64 y), .is v, .zp r0]

/-- the data of a packet with V6 -/
def dataS (k b off n c m : Nat) (bs : List Int) : List OpSpec :=
  [isV (.pointer (some ⟨k, 8, none⟩)), isV (.slice none 0 0), isV (.slice (some ⟨b, off, none⟩) n c), isV (.slice (some ⟨b, off, none⟩) n c), isV (.slice (some ⟨b, off + 4, none⟩) (n - 4) (c - 4)), isV (.int .i64 (m : Int)), isV (.int .i64 (40 + (m : Int))), isV (.slice (if c = 40 then some ⟨b, off, none⟩ else some ⟨b, off + 40, none⟩) m (c - 40)), rowV ([] ++ bs)]

theorem six_set {w : World} {k : Nat} {t : TypeId} {b0 b1 b2 b3 b4 b5 b6 b7 b8 : Value} (h : Blk w k t #[b0, b1, b2, b3, b4, b5, b6, b7, b8]) (a0 a1 a2 a3 a4 a5 : Value) :
    Blk ((((((w.setCell ⟨k, 0, none⟩ a0).setCell ⟨k, 1, none⟩ a1).setCell ⟨k, 2, none⟩ a2).setCell ⟨k, 3, none⟩ a3).setCell ⟨k, 4, none⟩ a4).setCell ⟨k, 5, none⟩ a5) k t #[a0, a1, a2, a3, a4, a5, b6, b7, b8] ∧
    Keep (· = k) w ((((((w.setCell ⟨k, 0, none⟩ a0).setCell ⟨k, 1, none⟩ a1).setCell ⟨k, 2, none⟩ a2).setCell ⟨k, 3, none⟩ a3).setCell ⟨k, 4, none⟩ a4).setCell ⟨k, 5, none⟩ a5) := by
  constructor
  · have := (((((h.set_ 0 a0).set_ 1 a1).set_ 2 a2).set_ 3 a3).set_ 4 a4).set_ 5 a5
    simpa using this
  · exact ((((((Keep.refl (· = k) w).setCell (p := ⟨k, 0, none⟩) (.inr rfl) _).setCell (p := ⟨k, 1, none⟩) (.inr rfl) _).setCell (p := ⟨k, 2, none⟩) (.inr rfl) _).setCell (p := ⟨k, 3, none⟩) (.inr rfl) _).setCell (p := ⟨k, 4, none⟩) (.inr rfl) _).setCell (p := ⟨k, 5, none⟩) (.inr rfl) _
theorem six_set8 {w : World} {k : Nat} {s d : Ad} {p t : Int} {v : Value} (h : Blk w k 34 (pkC s d p t v)) (u : Value) : Blk (w.setCell ⟨k, 8, none⟩ u) k 34 (pkC s d p t u) := by
  have := h.set_ 8 u
  simpa [pkC] using this

theorem post_isB {ds : List Tmp} {base : Nat} {v : Value} {r : Operand → Value} {w w' : World} (h : Below w.heap.size w w') : PostS ds base (isV v) r w v w' := ⟨h, rfl, trivial⟩
def SixPost (n m : Nat) (bs : List Int) (w : World) (e : Ending) (w' : World) : Prop :=
  ∃ v, e = .returned (.tuple #[pkV ⟨true, (fb ((bs.drop 8).take 16)).1, (fb ((bs.drop 8).take 16)).2⟩ ⟨true, (fb ((bs.drop 24).take 16)).1, (fb ((bs.drop 24).take 16)).2⟩ (gB bs 6) (gB bs 7) v, .int .i64 0]) ∧ w'.ownsRow w.heap.size 5 1 v m (bytesV ((bs.drop 40).take m)) ∧ Ext w w'

theorem six_end {n m : Nat} {bs : List Int} {w w1 : World} {x y : Int × Int} {v : Value} {a : Act} (hx : fb ((bs.drop 8).take 16) = x) (hy : fb ((bs.drop 24).take 16) = y) (hb : Blk w1 w.heap.size 34 pkZC) (hown : w1.ownsRow (w.heap.size + 1) 5 1 v m (bytesV ((bs.drop 40).take m))) (hE : Ext w w1)
    (hs : a.tmps.getD 2 undef = .pointer (some ⟨w.heap.size, 0, none⟩)) (hu : a.tmps.getD 3 undef = .int .i64 0) (hd : a.defers = []) :
    bodyPost Try.prog Try.f39 (SixPost n m bs w) .ret a
      (set9 w1 w.heap.size (.bool true) (.int .u64 x.1) (.int .u64 x.2) (.bool true) (.int .u64 y.1) (.int .u64 y.2) (.int .i64 (gB bs 6)) (.int .i64 (gB bs 7)) v) := by
  subst hx hy
  exact bodyPost_ret (results_pk (s := ⟨true, _, _⟩) (d := ⟨true, _, _⟩) (p := gB bs 6) (t := gB bs 7) rfl hs (Blk.set9 hb _ _ _ _ _ _ _ _ _) hu) hd ⟨_, rfl, own_base (own_apart hown (keep_set9 (X := (· = w.heap.size)) rfl _ _ _ _ _ _ _ _ _) hb (by decide)) (Nat.le_succ _), Ext.keep hE (keep_set9 (X := (· = w.heap.size)) rfl _ _ _ _ _ _ _ _ _) (Nat.le_refl _)⟩

set_option maxRecDepth 100000 in
set_option maxHeartbeats 4000000 in
theorem six_ok (b off n c m : Nat) (bs : List Int) (w : World) (hB : IsB bs) (hr : Reads w w.heap.size 1 (some ⟨b, off, none⟩) n (bytesV bs)) (hc : n ≤ c) (hm : gB bs 4 * 256 + gB bs 5 = (m : Int)) (hx : 40 + m ≤ n) :
    Calls Try.prog 39 #[.slice (some ⟨b, off, none⟩) n c] w (SixPost n m bs w) := by
  have hn : ¬ (n : Int) < 40 := by omega
  have hn4 : (4 : Int) ≤ (n : Int) := by omega
  have hc4 : ¬ c = 4 := by omega
  have hbl : Blk (w.alloc (.cells pkZC 34)) w.heap.size 34 pkZC := Blk.new _ _ _
  have hE0 : Ext w (w.alloc (.cells pkZC 34)) := (Ext.refl w).alloc _
  have g4 := hB.at 4
  have g5 := hB.at 5
  have hm2 : (m : Int) ≤ 65535 := by omega
  have hnm : ¬ (n : Int) < 40 + (m : Int) := by omega
  have hcn : (n : Int) ≤ (c : Int) := by omega
  have hr4 : Reads (w.alloc (.cells pkZC 34)) w.heap.size 1 (some ⟨b, off + 4, none⟩) (n - 4) (bytesV (bs.drop 4)) := (hr.below hE0).from (by omega)
  have hd0 : gB (bs.drop 4) 0 * 256 + gB (bs.drop 4) 1 = (m : Int) := by rw [← hm]; simp [gB, List.getElem?_drop]
  go_enter Try.func39, Try.ntmps39
  go_wp2_with fail
  refine (get_any _ _ _ w.heap.size (bs.drop 4) _ (by omega) (fun y hy => hB y (List.mem_of_mem_drop hy)) hr4).mono ?_
  rintro e w2 ⟨rfl, k, rfl⟩
  rw [hd0]
  have hb1 := hbl.drewN k
  have hE1 := Ext.drewN hE0 k
  generalize (w.alloc (.cells pkZC 34)).drewN k = w1 at *
  clear hbl hE0 hr4
  have hlt := hb1.lt
  go_wp2_with fail
  go_cut [4] (fun v4 wx => ∃ k, v4 = .pointer (some ⟨k, 0, none⟩) ∧ w.heap.size < k ∧ Blk wx k 34 (pkC ⟨false, 0, 0⟩ ⟨false, 0, 0⟩ (gB bs 6) (gB bs 7) (.slice none 0 0)) ∧ Blk wx w.heap.size 34 pkZC ∧ Ext w wx)
  case first =>
    refine wp_region_facts (by kernel_rfl) 10 [some 18, some 19, some 20, some 21, some 22, some 23, some 24, some 25, some 26, some 4] rfl rfl (fun _ => False) (readF b off n c w.heap.size 6 7 (gB bs 6) (gB bs 7) (pkV ⟨false, 0, 0⟩ ⟨false, 0, 0⟩ (gB bs 6) (gB bs 7) (.slice none 0 0))) (fun wq => Keep (fun _ => False) w1 wq) 46 (by kernel_rfl) (by kernel_rfl) (by kernel_rfl) (by kernel_rfl) (by kernel_rfl) rfl (by kernel_rfl) ?_ ?_ ?_
    · exact (Keep.refl _ _).drew
    · intro x wq hR hA
      obtain ⟨-, -, -, -, -, -, -, -, hv8, ⟨k, hy, hkb, hkr⟩, -⟩ := hA
      have hEq : Ext w wq := Below.trans hE1 (hR.below (Nat.le_of_lt hlt) (fun _ h => h.elim))
      have hb2 := hb1.kept hR (fun h => h)
      simp only [Nat.zero_add, Nat.reduceAdd] at hv8 hy
      replace hv8 : x 8 = pkV ⟨false, 0, 0⟩ ⟨false, 0, 0⟩ (gB bs 6) (gB bs 7) (.slice none 0 0) := hv8
      simp only [fillL, Nat.zero_add, Nat.reduceAdd, Act.put, List.setIfInBounds_toArray, List.set_cons_succ, List.set_cons_zero, List.drop_succ_cons, List.drop_zero, hv8, hy]
      clear hv8 hy
      obtain ⟨a0, a1, a2, a3, a4, a5, a6, a7, a8, af⟩ := pk_cells (s := ⟨false, 0, 0⟩) (d := ⟨false, 0, 0⟩) (p := 0) (t := 0) (v := .slice none 0 0) hkb
      have HB := Lib.hid hb2
      have HK := Lib.hid hkb
      have HE := Lib.hid hEq
      clear hb2 hkb hEq hb1 hE1 hR
      unfold pkV
      go_wp2_with fail
      go_meet
      exact ⟨k, rfl, hkr, Blk.set9 HK.out _ _ _ _ _ _ _ _ _, HB.out.kept (keep_set9 (X := (· = k)) rfl _ _ _ _ _ _ _ _ _) (by omega), Ext.keep HE.out (keep_set9 (X := (· = k)) rfl _ _ _ _ _ _ _ _ _) (Nat.le_of_lt hkr)⟩
    · have hn6 : (6 : Int) < (n : Int) := by omega
      have hn7 : (7 : Int) < (n : Int) := by omega
      have hl : bs.length = n := by have := hr.1; rw [bytesV_len] at this; omega
      have rd : ∀ wq, Keep (fun _ => False) w1 wq → ∀ j, j < n → wq.cell? ⟨b, off + j, none⟩ = some (.int .u8 (gB bs j)) := by
        intro wq hR j hj
        have h2 := hr.below (Below.trans hE1 (hR.below (Nat.le_of_lt hlt) (fun _ h => h.elim)))
        obtain ⟨b', off', e, _, hcell⟩ := h2.2 (by omega)
        injection e with e
        injection e with e1 e2
        subst e1 e2
        exact hcell j _ (bytesV_get bs j (by omega))
      refine EachOp.cons ?_ (EachOp.cons ?_ (EachOp.cons ?_ (EachOp.cons ?_ (EachOp.cons ?_ (EachOp.cons ?_ (EachOp.cons ?_ (EachOp.cons ?_ (EachOp.cons ?_ (EachOp.cons ?_ EachOp.nil)))))))))
      all_goals (intro r wq hR hc hf ho hk K hK)
      · have h0 : r (.tmp 0) = .slice (some ⟨b, off, none⟩) n c := ho 0 rfl
        unfold OpV; go_simp; exact hK _ _ hR (Keep.refl _ _) rfl
      · have h0 : r (.tmp 18) = .slice (some ⟨b, off, none⟩) n c := hk.1
        unfold OpV; go_simp; exact hK _ _ hR (Keep.refl _ _) rfl
      · have h0 : r (.tmp 19) = .pointer (some ⟨b, off + 6, none⟩) := hk.1
        have c6 := rd wq hR 6 (by omega)
        unfold OpV; go_simp; exact hK _ _ hR (Keep.refl _ _) rfl
      · have h0 : r (.tmp 20) = .int .u8 (gB bs 6) := hk.1
        have b6 := hB.at 6
        unfold OpV; go_simp; (try rw [IntWalk.i64_in _ (by omega)]); exact hK _ _ hR (Keep.refl _ _) rfl
      · have h0 : r (.tmp 0) = .slice (some ⟨b, off, none⟩) n c := ho 0 rfl
        unfold OpV; go_simp; exact hK _ _ hR (Keep.refl _ _) rfl
      · have h0 : r (.tmp 22) = .slice (some ⟨b, off, none⟩) n c := hk.1
        unfold OpV; go_simp; exact hK _ _ hR (Keep.refl _ _) rfl
      · have h0 : r (.tmp 23) = .pointer (some ⟨b, off + 7, none⟩) := hk.1
        have c6 := rd wq hR 7 (by omega)
        unfold OpV; go_simp; exact hK _ _ hR (Keep.refl _ _) rfl
      · have h0 : r (.tmp 24) = .int .u8 (gB bs 7) := hk.1
        have b6 := hB.at 7
        unfold OpV; go_simp; (try rw [IntWalk.i64_in _ (by omega)]); exact hK _ _ hR (Keep.refl _ _) rfl
      · have h0 : r (.tmp 21) = .int .i64 (gB bs 6) := hk.1
        have h1 : r (.tmp 25) = .int .i64 (gB bs 7) := hk.2.1
        unfold OpV; go_simp; exact hK _ _ hR (Keep.refl _ _) rfl
      · unfold OpV; go_simp
        exact hK _ _ (hR.alloc _) ((Keep.refl _ _).alloc _) ⟨wq.heap.size, rfl, Blk.new _ _ _, Nat.lt_of_lt_of_le hlt hR.size⟩
  case rest =>
    obtain ⟨k, rfl, hkr, hkb, hb2, hE2⟩ := hcut
    obtain ⟨wo, rfl⟩ : ∃ wo : World, wo = wc := ⟨_, rfl⟩
    have h40 : (40 : Int) ≤ (n : Int) := by omega
    have hc40 : (40 : Int) ≤ (c : Int) := by omega
    have hc8 : ¬ c = 8 := by omega
    clear hb1 hE1 hlt
    go_wp2_with fail
    have hrs : Reads wo w.heap.size 1 (some ⟨b, off + 8, none⟩) 32 (bytesV ((bs.drop 8).take 32)) := (((hr.below hE2).from (k := 8) (by omega)).take (by omega))
    refine (ends_any b (off + 8) 32 (c - 8) _ _ (fun y hy => hB y (List.mem_of_mem_drop (List.mem_of_mem_take hy))) (hrs.more (by have := hE2.size; omega)) (.inr rfl) (by omega)).mono ?_
    rintro e w3 ⟨rfl, hE3⟩
    have e1 : ((bs.drop 8).take 32).take (32 / 2) = (bs.drop 8).take 16 := by rw [List.take_take]; rfl
    have e2 : ((bs.drop 8).take 32).drop (32 / 2) = (bs.drop 24).take 16 := by rw [List.drop_take, List.drop_drop]
    rw [e1, e2]
    clear e1 e2 hrs
    have hk3 := hkb.below hE3 hkb.lt
    have hz3 := hb2.below hE3 hb2.lt
    have hE4 := hE2.trans hE3
    clear hkb hb2 hE2 hE3
    obtain ⟨x, Hx⟩ : ∃ x, Hid (fb ((bs.drop 8).take 16) = x) := ⟨_, rfl⟩
    obtain ⟨y, Hy⟩ : ∃ y, Hid (fb ((bs.drop 24).take 16) = y) := ⟨_, rfl⟩
    rw [Hx.out, Hy.out]
    have hcl : w.heap.size < w3.heap.size := hz3.lt
    have hkl : k < w3.heap.size := hk3.lt
    obtain ⟨a0, a1, a2, a3, a4, a5, a6, a7, a8, af⟩ := pk_cells hk3
    go_wp2_with fail
    go_cut [] (fun wx => ∃ v, Blk wx k 34 (pkC ⟨true, x.1, x.2⟩ ⟨true, y.1, y.2⟩ (gB bs 6) (gB bs 7) v) ∧ Blk wx w.heap.size 34 pkZC ∧ wx.ownsRow (w.heap.size + 1) 5 1 v m (bytesV ((bs.drop 40).take m)) ∧ Ext w wx)
    case first =>
      obtain ⟨hk4, hkeep⟩ := six_set hk3 (.bool true) (.int .u64 x.1) (.int .u64 x.2) (.bool true) (.int .u64 y.1) (.int .u64 y.2)
      have hz4 := hz3.kept hkeep (by omega)
      have hE5 := Ext.keep hE4 hkeep (Nat.le_of_lt hkr)
      generalize ((((((w3.setCell ⟨k, 0, none⟩ (.bool true)).setCell ⟨k, 1, none⟩ (.int .u64 x.1)).setCell ⟨k, 2, none⟩ (.int .u64 x.2)).setCell ⟨k, 3, none⟩ (.bool true)).setCell ⟨k, 4, none⟩ (.int .u64 y.1)).setCell ⟨k, 5, none⟩ (.int .u64 y.2)) = w4 at *
      clear hk3 hz3 hkeep hE4 a0 a1 a2 a3 a4 a5 a6 a7 a8 af hcl hkl
      replace hk4 : Blk w4 k 34 (pkC ⟨true, x.1, x.2⟩ ⟨true, y.1, y.2⟩ (gB bs 6) (gB bs 7) (.slice none 0 0)) := hk4
      have hkl := hk4.lt
      have hcl := hz4.lt
      have hr5 := (hr.below hE5)
      have hcm : 40 + (m : Int) ≤ (c : Int) := by omega
      have hcm2 : (0 : Int) ≤ 40 + (m : Int) := by omega
      have hcm4 : (40 : Int) ≤ 40 + (m : Int) := by omega
      have hcm3 : (40 + (m : Int)).toNat - 40 = m := by omega
      have hrm : Reads w4 w.heap.size 1 (if c = 40 then some ⟨b, off, none⟩ else some ⟨b, off + 40, none⟩) m (bytesV ((bs.drop 40).take m)) := by
        rcases Nat.lt_or_ge 40 n with h | h
        · rw [if_neg (by omega)]
          exact (hr5.from (k := 40) h).take (by omega)
        · obtain rfl : m = 0 := by omega
          exact ⟨by simp [bytesV], fun h => absurd h (by omega)⟩
      have hlm : ((bs.drop 40).take m).length = m := by have := hrm.1; rw [bytesV_len] at this; omega
      refine wp_region_rows (by kernel_rfl) 9 [35, 36, 37, 38, 39, 40, 41, 42, 43] rfl rfl (dataS k b off n c m ((bs.drop 40).take m)) rfl 46 (by kernel_rfl) (by decide) (by kernel_rfl) (by kernel_rfl) (by kernel_rfl) rfl (by kernel_rfl) (by kernel_rfl) w4.heap.size (Nat.le_refl _) ?_ ?_
      · intro z wq hBq hb hA
        have r8 : RowAt w4.heap.size wq (z 8) ([] ++ (bs.drop 40).take m) := hA.2.2.2.2.2.2.2.2.1.2 rfl
        obtain ⟨A8, c8, e8, _⟩ := r8.reads m hlm
        simp only [List.map_cons, List.map_nil, fillL, Nat.zero_add, Nat.reduceAdd, Act.put, List.setIfInBounds_toArray, List.set_cons_succ, List.set_cons_zero, List.drop_succ_cons, List.drop_zero, e8]
        rw [e8] at r8
        clear hA e8
        have hkq := hk4.below hBq hkl
        have hzq := hz4.below hBq hcl
        have hEq := hE5.trans hBq
        obtain ⟨a0, a1, a2, a3, a4, a5, a6, a7, a8, af⟩ := pk_cells hkq
        have r9 : wq.ownsRow (w.heap.size + 1) 5 1 (.slice A8 m c8) m (bytesV ((bs.drop 40).take m)) := by
          have := r8
          unfold RowAt at this
          rw [List.nil_append, hlm] at this
          exact own_base this hcl
        go_wp2_with fail
        go_meet
        exact ⟨_, six_set8 hkq _, hzq.far (p := ⟨k, 8, none⟩) (by show w.heap.size ≠ k; omega) _, own_apart r9 (keep_one (p := ⟨k, 8, none⟩) _) hkq (by decide), Ext.keep hEq (keep_one (p := ⟨k, 8, none⟩) _) (Nat.le_of_lt hkr)⟩
      · refine EachOp.cons ?_ (EachOp.cons ?_ (EachOp.cons ?_ (EachOp.cons ?_ (EachOp.cons ?_ (EachOp.cons ?_ (EachOp.cons ?_ (EachOp.cons ?_ (EachOp.cons ?_ EachOp.nil))))))))
        all_goals (refine StepS.mk _ rfl fun r wq hBq hb hc hf ho hk K hK => ?_)
        · have h0 : r (.tmp 4) = .pointer (some ⟨k, 0, none⟩) := ho 4 rfl
          unfold OpV; go_simp; exact hK _ _ post_is
        · have h0 : r (.tmp 35) = .pointer (some ⟨k, 8, none⟩) := hk.1.1
          obtain ⟨a0, a1, a2, a3, a4, a5, a6, a7, a8, af⟩ := pk_cells (hk4.below hBq hkl)
          unfold OpV; go_simp; exact hK _ _ post_is
        · have h0 : r (.tmp 0) = .slice (some ⟨b, off, none⟩) n c := ho 0 rfl
          unfold OpV; go_simp; exact hK _ _ post_is
        · have h0 : r (.tmp 0) = .slice (some ⟨b, off, none⟩) n c := ho 0 rfl
          unfold OpV; go_simp; exact hK _ _ post_is
        · have h0 : r (.tmp 38) = .slice (some ⟨b, off, none⟩) n c := hk.1.1
          unfold OpV; go_simp; exact hK _ _ post_is
        · have h0 : r (.tmp 39) = .slice (some ⟨b, off + 4, none⟩) (n - 4) (c - 4) := hk.1.1
          have hr4 : Reads wq w.heap.size 1 (some ⟨b, off + 4, none⟩) (n - 4) (bytesV (bs.drop 4)) := (hr5.below (hBq.mono (Nat.le_of_lt hcl))).from (by omega)
          unfold OpV; go_simp
          refine (get_any _ _ _ w.heap.size (bs.drop 4) _ (by omega) (fun y hy => hB y (List.mem_of_mem_drop hy)) hr4).mono ?_
          rintro e w2 ⟨rfl, q, rfl⟩
          rw [hd0]
          exact ⟨_, rfl, hK _ _ (post_isB (Ext.drewN (Ext.refl _) q))⟩
        · have h0 : r (.tmp 40) = .int .i64 (m : Int) := hk.1.1
          unfold OpV; go_simp; (try rw [IntWalk.i64_in _ (by omega)]); exact hK _ _ post_is
        · have h0 : r (.tmp 37) = .slice (some ⟨b, off, none⟩) n c := hk.1.1
          have h1 : r (.tmp 41) = .int .i64 (40 + (m : Int)) := hk.2.1.1
          unfold OpV; go_simp; (try rw [hcm3]); exact hK _ _ post_is
        · have h0 : r (.tmp 36) = .slice none 0 0 := hk.1.1
          have h1 : r (.tmp 42) = .slice (if c = 40 then some ⟨b, off, none⟩ else some ⟨b, off + 40, none⟩) m (c - 40) := hk.2.1.1
          exact opv_append (.tmp 36) (.tmp 42) rfl wq.heap.size [] _ (by rw [h0]; exact World.ownsRow_nil _ _ _ _) _ _ m _ h1 (hrm.below (hBq.mono (Nat.le_of_lt hcl))) (by simp; omega) (Nat.le_refl _) fun v' w' h2 h3 h4 => hK _ _ (post_row ((Below.refl _ _).grown h3 (Nat.le_refl _) (by rw [h0]; intro k hk; cases hk)) h2)
    case rest =>
      obtain ⟨v, hk4, hz4, hown, hE5⟩ := hcut
      obtain ⟨A, n', c', rfl⟩ := own_slice hown
      obtain ⟨a0, a1, a2, a3, a4, a5, a6, a7, a8, af⟩ := pk_cells hk4
      obtain ⟨d0, d1, d2, d3, d4, d5, d6, d7, d8, df⟩ := pk_cells hz4
      have HK := Lib.hid hk4
      have HZ := Lib.hid hz4
      have HO := Lib.hid hown
      have HE := Lib.hid hE5
      clear hk4 hz4 hown hE5 hr hm hB
      go_wp2_with fail
      exact six_end (x := x) (y := y) Hx.out Hy.out HZ.out HO.out HE.out rfl rfl rfl

end Go.Proofs.Ytcdfmgkcadpgbaa
