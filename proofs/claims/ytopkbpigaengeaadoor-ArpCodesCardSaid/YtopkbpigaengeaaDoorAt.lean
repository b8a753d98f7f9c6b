/-
  Messages as the statements make them.
-/
import Derived.Test.YtopkbpigaengeaaDoorAs
namespace Go.Proofs.YtopkbpigaengeaaDoor
open Go.RowKit

def mkMac (n : Int) : Mac := ⟨2, 0, n / 16777216 % 256, n / 65536 % 256, n / 256 % 256, n % 256⟩
def MacOk (m : Mac) : Prop := (0 ≤ m.a ∧ m.a ≤ 255) ∧ (0 ≤ m.b ∧ m.b ≤ 255) ∧ (0 ≤ m.c ∧ m.c ≤ 255) ∧ (0 ≤ m.d ∧ m.d ≤ 255) ∧ (0 ≤ m.e ∧ m.e ≤ 255) ∧ (0 ≤ m.f ∧ m.f ≤ 255)
theorem mkMac_ok (n : Int) : MacOk (mkMac n) := by unfold MacOk mkMac; simp only; omega
def Ad4 (s : Ad) : Prop := s.v6 = false ∧ s.hi = 0 ∧ 0 ≤ s.lo ∧ s.lo < 4294967296
/-- a valid message -/
def MsgOk (m : Msg) : Prop := (m.op = 1 ∨ m.op = 2) ∧ MacOk m.fm ∧ Ad4 m.sa ∧ MacOk m.tm ∧ Ad4 m.da

theorem results_mac {fn : Func} {q : Tmp} (h : fn.results = #[.cell q 24]) {tmps : Array Value} {w : World} {k : Nat} {m : Mac}
    (hs : tmps.getD q undef = .pointer (some ⟨k, 0, none⟩)) (hb : Blk w k 24 (macC m)) : (results fn tmps).run Tryd.prog w = .ok (macV m) w :=
  results_cell_row h tmps w k 24 (macC m) (0, 0) _ hs hb Tryd.underlying24 rfl (by kernel_rfl)

set_option maxHeartbeats 2000000 in
theorem mac_any (n : Nat) (hn : n < 1000000) (w : World) :
    Calls Tryd.prog 25 #[.int .i64 (n : Int)] w (fun e w' => e = .returned (macV (mkMac (n : Int))) ∧ Ext w w') := by
  go_enter Tryd.func25, Tryd.ntmps25
  go_wp2_with fail
  have e1 : (n : Int) / 16777216 % 256 = (n : Int) / 16777216 := by omega
  have e2 : (n : Int) / 65536 % 256 = (n : Int) / 65536 := by omega
  unfold mkMac
  rw [e1, e2]
  exact bodyPost_ret (results_mac (m := ⟨2, 0, (n : Int) / 16777216, (n : Int) / 65536, (n : Int) / 256 % 256, (n : Int) % 256⟩) rfl rfl (Blk.new _ _ _)) rfl ⟨rfl, (Ext.refl w).alloc _⟩

/-! a deck that goes on -/
def DkR (w : World) (B g : Nat) (wq : World) : Prop := Keep (· = g) w wq ∧ DeckOk wq B g
theorem DkR.alloc {w wq : World} {B g : Nat} (h : DkR w B g wq) (o : Obj) : DkR w B g (wq.alloc o) := ⟨h.1.alloc o, h.2.alloc o⟩
theorem DkR.step {w wq w' : World} {B g : Nat} (h : DkR w B g wq) (hg : wq.grownBy w' (some g)) (hd : DeckOk w' B g) : DkR w B g w' :=
  ⟨h.1.trans (Keep.of_grown hg (by intro k e; injection e with e; exact e.symm)), hd⟩
theorem DkR.ext {w wq w' : World} {B g : Nat} (h : DkR w B g wq) (he : Ext wq w') : DkR w B g w' := ⟨h.1.trans (Keep.of_below he), h.2.below he⟩
theorem keep_of {w w' : World} {g : Nat} (hg : w.grownBy w' (some g)) : Keep (· = g) w w' := Keep.of_grown hg (by intro k e; injection e with e; exact e.symm)
theorem DkR.setRow {w wq : World} {B g k : Nat} (h : DkR w B g wq) (hk : ¬ k = g) (hkw : w.heap.size ≤ k) (hgw : g < w.heap.size) (cs : Array Value) : DkR w B g (wq.setRow k cs) :=
  ⟨⟨h.1.os, h.1.tape, h.1.output, by simpa using h.1.size, fun i hi hx => (setRow_other wq k i cs (by omega)).trans (h.1.block i hi hx)⟩,
   h.2.keep fun i hi => setRow_other wq k i cs (by have := h.2.lt; obtain ⟨A, len, c, zs, q, h1, _⟩ := h.2; omega)⟩

theorem msg_end {w w1 : World} {B g : Nat} {m : Msg} {a : Act} (hm : MsgOk m) (hb : Blk w1 w.heap.size 29 (arpC msg0)) (hR : DkR w B g w1) (hg : g < w.heap.size) (hs : a.tmps.getD 2 undef = .pointer (some ⟨w.heap.size, 0, none⟩)) (hd : a.defers = []) :
    bodyPost Tryd.prog Tryd.f7 (fun e w' => ∃ m, e = .returned (arpV m) ∧ MsgOk m ∧ DkR w B g w') .ret a (w1.setRow w.heap.size (arpC m)) :=
  bodyPost_ret (results_arp rfl hs (Blk.setRow hb (arpC m))) hd ⟨m, rfl, hm, hR.setRow (by omega) (Nat.le_refl _) hg _⟩

set_option maxHeartbeats 2000000 in
theorem message_any (B g : Nat) (w : World) (hdk : DeckOk w B g) :
    Calls Tryd.prog 7 #[.pointer (some ⟨g, 0, none⟩)] w (fun e w' => ∃ m, e = .returned (arpV m) ∧ MsgOk m ∧ DkR w B g w') := by
  have hg := hdk.lt
  have hb0 : Blk (w.alloc (.cells (arpC msg0) 29)) w.heap.size 29 (arpC msg0) := Blk.new _ _ _
  have hR0 : DkR w B g (w.alloc (.cells (arpC msg0) 29)) := ⟨(Keep.refl _ _).alloc _, hdk.alloc _⟩
  have hne : ¬ w.heap.size = g := by omega
  go_enter Tryd.func7, Tryd.ntmps7
  go_wp2_with fail
  refine (next_any B g 2 _ (by decide) (by decide) hR0.2).mono ?_
  rintro e w1 ⟨r1, rfl, h1, hg1, -, hd1⟩
  have hR1 := hR0.step hg1 hd1
  have hb1 := hb0.kept (keep_of hg1) hne
  clear hR0 hb0 hg1 hd1
  go_wp2_with fail
  refine (next_any B g 99 _ (by decide) (by decide) hR1.2).mono ?_
  rintro e w2 ⟨r2, rfl, h2, hg2, -, hd2⟩
  have hR2 := hR1.step hg2 hd2
  have hb2 := hb1.kept (keep_of hg2) hne
  clear hR1 hb1 hg2 hd2
  go_wp2_with fail
  refine (mac_any r2 (by omega) _).mono ?_
  rintro e w3 ⟨rfl, hE3⟩
  have hR3 := hR2.ext hE3
  have hb3 := hb2.below hE3 hb2.lt
  clear hR2 hb2 hE3
  go_wp2_with fail
  refine (next_any B g 1073741824 _ (by decide) (by decide) hR3.2).mono ?_
  rintro e w4 ⟨r4, rfl, h4, hg4, -, hd4⟩
  have hR4 := hR3.step hg4 hd4
  have hb4 := hb3.kept (keep_of hg4) hne
  clear hR3 hb3 hg4 hd4
  go_wp2_with fail
  refine (next_any B g 99 _ (by decide) (by decide) hR4.2).mono ?_
  rintro e w5 ⟨r5, rfl, h5, hg5, -, hd5⟩
  have hR5 := hR4.step hg5 hd5
  have hb5 := hb4.kept (keep_of hg5) hne
  clear hR4 hb4 hg5 hd5
  go_wp2_with fail
  refine (mac_any r5 (by omega) _).mono ?_
  rintro e w6 ⟨rfl, hE6⟩
  have hR6 := hR5.ext hE6
  have hb6 := hb5.below hE6 hb5.lt
  clear hR5 hb5 hE6
  go_wp2_with fail
  refine (next_any B g 5 _ (by decide) (by decide) hR6.2).mono ?_
  rintro e w7 ⟨r7, rfl, h7, hg7, -, hd7⟩
  have hR7 := hR6.step hg7 hd7
  have hb7 := hb6.kept (keep_of hg7) hne
  clear hR6 hb6 hg7 hd7
  have hok : MsgOk ⟨1 + (r1 : Int), mkMac r2, ⟨false, 0, (r4 : Int)⟩, mkMac r5, ⟨false, 0, (r7 : Int)⟩⟩ :=
    ⟨by simp only; omega, mkMac_ok _, ⟨rfl, rfl, by simp only; omega, by simp only; omega⟩, mkMac_ok _, ⟨rfl, rfl, by simp only; omega, by simp only; omega⟩⟩
  have HB := Lib.hid hb7
  have HR := Lib.hid hR7
  have HO := Lib.hid hok
  clear hb7 hR7 hok
  unfold macV
  go_wp2_with (refine store_arp rfl (.tmp 2) (.tmp 20) rfl rfl w.heap.size ⟨1 + (r1 : Int), mkMac r2, ⟨false, 0, (r4 : Int)⟩, mkMac r5, ⟨false, 0, (r7 : Int)⟩⟩ msg0 rfl rfl HB.out ?_)
  exact msg_end HO.out HB.out HR.out hg rfl rfl

end Go.Proofs.YtopkbpigaengeaaDoor
