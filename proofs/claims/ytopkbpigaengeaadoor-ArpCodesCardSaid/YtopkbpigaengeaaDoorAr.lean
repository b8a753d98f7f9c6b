/-
  Messages of address resolution as they lie in memory, and the functions that make one from another.
-/
import Derived.Test.YtopkbpigaengeaaDoorRh
import Derived.Test.YtopkbpigaengeaaDoorL
import Derived.Laws.Tables
namespace Go.Proofs.YtopkbpigaengeaaDoor
open Go.RowKit

structure Ad where
  v6 : Bool
  hi : Int
  lo : Int

structure Mac where
  a : Int
  b : Int
  c : Int
  d : Int
  e : Int
  f : Int

structure Msg where
  op : Int
  fm : Mac
  sa : Ad
  tm : Mac
  da : Ad

def adC (s : Ad) : Array Value := #[.bool s.v6, .int .u64 s.hi, .int .u64 s.lo]
def adV (s : Ad) : Value := .agg #[.bool s.v6, .int .u64 s.hi, .int .u64 s.lo]
def macC (m : Mac) : Array Value := #[.int .u8 m.a, .int .u8 m.b, .int .u8 m.c, .int .u8 m.d, .int .u8 m.e, .int .u8 m.f]
def macV (m : Mac) : Value := .agg #[.int .u8 m.a, .int .u8 m.b, .int .u8 m.c, .int .u8 m.d, .int .u8 m.e, .int .u8 m.f]
def arpC (m : Msg) : Array Value := #[.int .i64 m.op, .int .u8 m.fm.a, .int .u8 m.fm.b, .int .u8 m.fm.c, .int .u8 m.fm.d, .int .u8 m.fm.e, .int .u8 m.fm.f, .bool m.sa.v6, .int .u64 m.sa.hi, .int .u64 m.sa.lo, .int .u8 m.tm.a, .int .u8 m.tm.b, .int .u8 m.tm.c, .int .u8 m.tm.d, .int .u8 m.tm.e, .int .u8 m.tm.f, .bool m.da.v6, .int .u64 m.da.hi, .int .u64 m.da.lo]
def arpV (m : Msg) : Value := .agg #[.int .i64 m.op, .int .u8 m.fm.a, .int .u8 m.fm.b, .int .u8 m.fm.c, .int .u8 m.fm.d, .int .u8 m.fm.e, .int .u8 m.fm.f, .bool m.sa.v6, .int .u64 m.sa.hi, .int .u64 m.sa.lo, .int .u8 m.tm.a, .int .u8 m.tm.b, .int .u8 m.tm.c, .int .u8 m.tm.d, .int .u8 m.tm.e, .int .u8 m.tm.f, .bool m.da.v6, .int .u64 m.da.hi, .int .u64 m.da.lo]
def mac0 : Mac := ⟨0, 0, 0, 0, 0, 0⟩
def ad0 : Ad := ⟨false, 0, 0⟩
def msg0 : Msg := ⟨0, mac0, ad0, mac0, ad0⟩

theorem arp_cells {w : World} {k : Nat} {t : TypeId} {m : Msg} (h : Blk w k t (arpC m)) : w.cell? ⟨k, 0, none⟩ = some (.int .i64 m.op) ∧ w.cell? ⟨k, 1, none⟩ = some (.int .u8 m.fm.a) ∧ w.cell? ⟨k, 2, none⟩ = some (.int .u8 m.fm.b) ∧ w.cell? ⟨k, 3, none⟩ = some (.int .u8 m.fm.c) ∧ w.cell? ⟨k, 4, none⟩ = some (.int .u8 m.fm.d) ∧ w.cell? ⟨k, 5, none⟩ = some (.int .u8 m.fm.e) ∧ w.cell? ⟨k, 6, none⟩ = some (.int .u8 m.fm.f) ∧ w.cell? ⟨k, 7, none⟩ = some (.bool m.sa.v6) ∧ w.cell? ⟨k, 8, none⟩ = some (.int .u64 m.sa.hi) ∧ w.cell? ⟨k, 9, none⟩ = some (.int .u64 m.sa.lo) ∧ w.cell? ⟨k, 10, none⟩ = some (.int .u8 m.tm.a) ∧ w.cell? ⟨k, 11, none⟩ = some (.int .u8 m.tm.b) ∧ w.cell? ⟨k, 12, none⟩ = some (.int .u8 m.tm.c) ∧ w.cell? ⟨k, 13, none⟩ = some (.int .u8 m.tm.d) ∧ w.cell? ⟨k, 14, none⟩ = some (.int .u8 m.tm.e) ∧ w.cell? ⟨k, 15, none⟩ = some (.int .u8 m.tm.f) ∧ w.cell? ⟨k, 16, none⟩ = some (.bool m.da.v6) ∧ w.cell? ⟨k, 17, none⟩ = some (.int .u64 m.da.hi) ∧ w.cell? ⟨k, 18, none⟩ = some (.int .u64 m.da.lo) ∧ (∀ i, w.frozen? ⟨k, i, none⟩ = false) :=
  ⟨h.cell 0, h.cell 1, h.cell 2, h.cell 3, h.cell 4, h.cell 5, h.cell 6, h.cell 7, h.cell 8, h.cell 9, h.cell 10, h.cell 11, h.cell 12, h.cell 13, h.cell 14, h.cell 15, h.cell 16, h.cell 17, h.cell 18, fun i => h.frozen i⟩

theorem results_arp {fn : Func} {q : Tmp} (h : fn.results = #[.cell q 29]) {tmps : Array Value} {w : World} {k : Nat} {m : Msg}
    (hs : tmps.getD q undef = .pointer (some ⟨k, 0, none⟩)) (hb : Blk w k 29 (arpC m)) : (results fn tmps).run Tryd.prog w = .ok (arpV m) w :=
  results_cell_row h tmps w k 29 (arpC m) (0, 0) _ hs hb Tryd.underlying29 rfl (by kernel_rfl)

theorem Tryd.sizeArp : (Tryd.prog.info? 29).map (·.size) = some 19 := by kernel_rfl
theorem arp_one (m : Msg) : (arpC m).all (·.oneCell') = true := by simp [arpC, Value.oneCell']
theorem Blk.setRow {w : World} {g : Nat} {t : TypeId} {old : Array Value} (h : Blk w g t old) (cs : Array Value) : Blk (w.setRow g cs) g t cs := setRow_heap w g old cs t (0, 0) h
theorem keep_setRow {w : World} {g : Nat} {X : Nat → Prop} (hx : X g) (cs : Array Value) : Keep X w (w.setRow g cs) :=
  ⟨rfl, rfl, rfl, by simp, fun k _ hk => setRow_other w g k cs (fun e => hk (by rw [e]; exact hx))⟩

section
variable {ops : Array Oper} {rest : List Oper} {o : Oper} {a : Act} {w : World} {Q : Exit → Act → World → Prop}
theorem store_arp (hgd : o.guard = none) (x y : Operand) (ho : o.op = .store 29 x y) (hd : o.dst = none) (g : Nat) (m m0 : Msg) (hx : a.eval x = .pointer (some ⟨g, 0, none⟩)) (hy : a.eval y = arpV m)
    (hb : Blk w g 29 (arpC m0)) (h : wpList Tryd.prog ops Q rest a (w.setRow g (arpC m))) : wpList Tryd.prog ops Q (o :: rest) a w :=
  wpList_store_row hgd 29 x y ho g (arpC m) hx hy 29 (arpC m0) hb Tryd.sizeArp rfl (arp_one m) (by rw [hd]; exact h)
theorem load_arp (hgd : o.guard = none) (x : Operand) (ho : o.op = .load 29 x) (g : Nat) (m : Msg) (hx : a.eval x = .pointer (some ⟨g, 0, none⟩)) (hb : Blk w g 29 (arpC m))
    (h : wpList Tryd.prog ops Q rest (a.put o.dst (arpV m)) w) : wpList Tryd.prog ops Q (o :: rest) a w :=
  wpList_load_row hgd 29 x ho g hx 29 (arpC m) (0, 0) _ hb Tryd.underlying29 rfl Tryd.sizeArp h
end
theorem new3 (w : World) (o1 o2 o3 : Obj) (t : TypeId) (cs : Array Value) : Blk ((((w.alloc o1).alloc o2).alloc o3).alloc (.cells cs t)) (w.heap.size + 1 + 1 + 1) t cs := by
  have := Blk.new (((w.alloc o1).alloc o2).alloc o3) t cs
  simpa using this
theorem new2 (w : World) (o1 o2 : Obj) (t : TypeId) (cs : Array Value) : Blk (((w.alloc o1).alloc o2).alloc (.cells cs t)) (w.heap.size + 1 + 1) t cs := by
  have := Blk.new ((w.alloc o1).alloc o2) t cs
  simpa using this
theorem ret_arp {fn : Func} {q : Tmp} (h : fn.results = #[.cell q 29]) {w w1 : World} {k : Nat} {m0 m : Msg} {a : Act} (hb : Blk w1 k 29 (arpC m0)) (hE : Ext w w1) (hk : w.heap.size ≤ k)
    (hs : a.tmps.getD q undef = .pointer (some ⟨k, 0, none⟩)) (hd : a.defers = []) :
    bodyPost Tryd.prog fn (fun e w' => e = .returned (arpV m) ∧ Ext w w') .ret a (w1.setRow k (arpC m)) :=
  bodyPost_ret (results_arp h hs (Blk.setRow hb (arpC m))) hd ⟨rfl, Ext.keep hE (keep_setRow (X := (· = k)) rfl _) hk⟩

end Go.Proofs.YtopkbpigaengeaaDoor
