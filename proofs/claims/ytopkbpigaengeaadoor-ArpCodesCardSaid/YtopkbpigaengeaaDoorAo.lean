/-
  What came in, opened: lists of numbers, stations, addresses, messages, bytes; the listed variable's bytes.
-/
import Derived.Test.YtopkbpigaengeaaDoorAw
import Derived.Test.YtopkbpigaengeaaDoorLaw
import Derived.Lib.SmallJoins
import Derived.Deep.Strs
import Derived.LaidMore
import Derived.OpenShut
import Derived.Stop.Joined
namespace Go.Proofs.YtopkbpigaengeaaDoor
open Go.ChangeShapes Go.WideShapes Go.ChangeAt Go.RowKit Go.Joins

theorem Tryd.cellsInt : Tryd.prog.cellsOf 3 = 1 := by kernel_rfl
theorem Tryd.cellsU8 : Tryd.prog.cellsOf 5 = 1 := by kernel_rfl
theorem Tryd.cellsBool : Tryd.prog.cellsOf 4 = 1 := by kernel_rfl
theorem Tryd.cellsU64 : Tryd.prog.cellsOf 25 = 1 := by kernel_rfl
theorem Tryd.cellsAddr : Tryd.prog.cellsOf 27 = 3 := by kernel_rfl
theorem Tryd.cellsMac : Tryd.prog.cellsOf 24 = 6 := by kernel_rfl
theorem Tryd.cellsArp : Tryd.prog.cellsOf 29 = 19 := by kernel_rfl
theorem Tryd.gHead : Tryd.prog.globalNamed "exchangepoint/arp.head" = some 0 := by kernel_rfl
theorem Tryd.tHead : (Tryd.prog.globals[0]?).map (·.type) = some 23 := by kernel_rfl

theorem isB_of_wf {zs : List Int} (h : ∀ n ∈ zs, (Lit.int .u8 n).wf = true) : IsB zs := fun x hx => bounds_u8 (h x hx)
theorem list6 {α : Type} {xs : List α} (h : xs.length = 6) : ∃ a b c d e f, xs = [a, b, c, d, e, f] := by
  match xs, h with
  | [a, b, c, d, e, f], _ => exact ⟨a, b, c, d, e, f, rfl⟩
theorem okWide_array {P : Program} {w : World} {r : Reach} {base : Nat} {t : TypeId} {v : Value} {n : Nat} {e : TypeId} (ht : P.underlying t = some (.array n e)) (h : Value.okWide P w r base t v) : ∃ cs, v = .agg cs ∧ cs.size = P.cellsOf t := by
  simp only [Value.okWide, ht] at h
  obtain ⟨cs, h1, h2, _⟩ := h
  exact ⟨cs, h1, h2⟩

section
variable {H : Type} {enc : TypeId × Value → H} {w : World} {base : Nat} {spare : Nat → Bool} {held : Bool}

theorem open_nums {W : World} {fuel len cap : Nat} {a1 : Option Addr} {y : DataW H × List MemPlace}
    (hf : DataW.trod enc Tryd.prog W base spare held fuel 22 (Value.slice a1 len cap).cells.toList = some y) : ∃ zs : List Int, len ≤ 9223372036854775807 ∧ Reads W W.heap.size 1 a1 len (zs.map (Value.int .i64)) := by
  rcases open_ints Tryd.underlying22 Tryd.underlying3 Tryd.cellsInt hf with ⟨hcs, hx⟩ | ⟨a, len', cap', zs, hcs, _, hl, hm, hz, hx, hcell, hwz⟩
  · simp [Value.cells] at hcs
    obtain ⟨rfl, rfl, rfl⟩ := hcs
    exact ⟨[], by omega, Reads.none_⟩
  · simp [Value.cells] at hcs
    obtain ⟨rfl, rfl, rfl⟩ := hcs
    have hlen : len ≤ zs.length := by rw [hz]; split <;> omega
    exact ⟨zs.take len, by unfold maxLen at hm; omega, reads_ints hlen hcell rfl⟩

/-- bytes that came in: a full row -/
theorem open_bytes {n : Nat} {v : Value} {y : DataW H × List MemPlace} (h : DataW.trod enc Tryd.prog w base spare held n 38 [v] = some y) : ∃ bs, IsB bs ∧ FDat w v bs := by
  rcases open_ints Tryd.underlying38 Tryd.underlying5 Tryd.cellsU8 h with ⟨hcs, hx⟩ | ⟨a, len', cap', zs, hcs, _, hl, hm, hz, hx, hcell, hwz⟩
  · simp at hcs
    subst hcs
    exact ⟨[], (fun x hx => by cases hx), none, 0, rfl, Nat.le_refl _, Reads.none_⟩
  · simp at hcs
    subst hcs
    have hlen : len' ≤ zs.length := by rw [hz]; split <;> omega
    have e : (zs.take len').length = len' := by simp [hlen]
    refine ⟨zs.take len', isB_of_wf fun n hn => hwz n (List.mem_of_mem_take hn), some a, cap', by rw [e], by rw [e]; omega, ?_⟩
    have hr := reads_ints (B := w.heap.size) (len := len') hlen hcell rfl
    rw [e]
    exact hr

def AdIn (s : Ad) : Prop := (0 ≤ s.hi ∧ s.hi ≤ 18446744073709551615) ∧ (0 ≤ s.lo ∧ s.lo ≤ 18446744073709551615)
theorem open_addr {n : Nat} {c0 c1 c2 : Value} {y : DataW H × List MemPlace} (h : DataW.trod enc Tryd.prog w base spare held n 27 [c0, c1, c2] = some y) : ∃ s : Ad, c0 = .bool s.v6 ∧ c1 = .int .u64 s.hi ∧ c2 = .int .u64 s.lo ∧ AdIn s := by
  obtain ⟨y0, y1, y2, m, _, _, h0, h1, h2⟩ := Go.Deep.trod_struct3 Tryd.underlying27 h
  simp only [Tryd.cellsBool, Tryd.cellsU64] at h0 h1 h2
  obtain ⟨b, e0, _⟩ := DataW.trod_bool Tryd.underlying4 h0
  obtain ⟨hi, e1, _, w1⟩ := DataW.trod_int Tryd.underlying25 h1
  obtain ⟨lo, e2, _, w2⟩ := DataW.trod_int Tryd.underlying25 h2
  simp at e0 e1 e2
  exact ⟨⟨b, hi, lo⟩, e0, e1, e2, bounds_u64 w1, bounds_u64 w2⟩

theorem open_u8 {m : Nat} {cs : List Value} {y : DataW H × List MemPlace} (h : DataW.trod enc Tryd.prog w base spare held m 5 cs = some y) : ∃ k : Int, cs = [.int .u8 k] ∧ y.1 = .lit (.int .u8 k) ∧ (0 ≤ k ∧ k ≤ 255) := by
  obtain ⟨k, e, e2, hw⟩ := DataW.trod_int Tryd.underlying5 h
  exact ⟨k, e, by rw [e2], bounds_u8 hw⟩

/-- six bytes in a row, as the reader reads them -/
theorem open_six {t : TypeId} (ht : Tryd.prog.underlying t = some (.array 6 5)) (hc : Tryd.prog.cellsOf t = 6) {fuel : Nat} {cs : List Value} {y : DataW H × List MemPlace} (h : DataW.trod enc Tryd.prog w base spare held fuel t cs = some y) :
    ∃ a b c d e f : Int, cs = [.int .u8 a, .int .u8 b, .int .u8 c, .int .u8 d, .int .u8 e, .int .u8 f] ∧ y.1 = .agg [.lit (.int .u8 a), .lit (.int .u8 b), .lit (.int .u8 c), .lit (.int .u8 d), .lit (.int .u8 e), .lit (.int .u8 f)] ∧
      ((0 ≤ a ∧ a ≤ 255) ∧ (0 ≤ b ∧ b ≤ 255) ∧ (0 ≤ c ∧ c ≤ 255) ∧ (0 ≤ d ∧ d ≤ 255) ∧ (0 ≤ e ∧ e ≤ 255) ∧ (0 ≤ f ∧ f ≤ 255)) := by
  obtain ⟨xs, m, _, hx, hl, hn, hel⟩ := DataW.trod_array ht h
  rw [hc] at hl
  rw [Tryd.cellsU8] at hel
  obtain ⟨c0, c1, c2, c3, c4, c5, rfl⟩ := list6 hl
  obtain ⟨x0, x1, x2, x3, x4, x5, rfl⟩ := list6 hn
  obtain ⟨k0, e0, f0, b0⟩ := open_u8 (show DataW.trod enc Tryd.prog w base spare held m 5 [c0] = some x0 from hel 0 (by decide))
  obtain ⟨k1, e1, f1, b1⟩ := open_u8 (show DataW.trod enc Tryd.prog w base spare held m 5 [c1] = some x1 from hel 1 (by decide))
  obtain ⟨k2, e2, f2, b2⟩ := open_u8 (show DataW.trod enc Tryd.prog w base spare held m 5 [c2] = some x2 from hel 2 (by decide))
  obtain ⟨k3, e3, f3, b3⟩ := open_u8 (show DataW.trod enc Tryd.prog w base spare held m 5 [c3] = some x3 from hel 3 (by decide))
  obtain ⟨k4, e4, f4, b4⟩ := open_u8 (show DataW.trod enc Tryd.prog w base spare held m 5 [c4] = some x4 from hel 4 (by decide))
  obtain ⟨k5, e5, f5, b5⟩ := open_u8 (show DataW.trod enc Tryd.prog w base spare held m 5 [c5] = some x5 from hel 5 (by decide))
  simp only [List.cons.injEq, and_true] at e0 e1 e2 e3 e4 e5
  subst e0 e1 e2 e3 e4 e5
  refine ⟨k0, k1, k2, k3, k4, k5, rfl, ?_, b0, b1, b2, b3, b4, b5⟩
  rw [hx]
  simp only [List.map_cons, List.map_nil, f0, f1, f2, f3, f4, f5]

theorem open_mac {fuel : Nat} {cs : List Value} {y : DataW H × List MemPlace} (h : DataW.trod enc Tryd.prog w base spare held fuel 24 cs = some y) : ∃ m : Mac, cs = (macC m).toList ∧ MacOk m := by
  obtain ⟨a, b, c, d, e, f, e1, _, e3⟩ := open_six Tryd.underlying24 Tryd.cellsMac h
  exact ⟨⟨a, b, c, d, e, f⟩, e1, e3⟩
theorem open_macV {W : World} {r : Reach} {b0 : Nat} {v : Value} {d : DataW H} {p : List MemPlace} (hv : Value.okWide Tryd.prog W r b0 24 v) (h : DataW.Trod enc Tryd.prog w base spare held 24 v d p) : ∃ m : Mac, v = macV m ∧ MacOk m := by
  obtain ⟨cs, rfl, _⟩ := okWide_array Tryd.underlying24 hv
  obtain ⟨fuel, hf⟩ := h
  obtain ⟨m, e, hm⟩ := open_mac (cs := cs.toList) hf
  obtain ⟨l⟩ := cs
  refine ⟨m, ?_, hm⟩
  simp only at e
  rw [e]
  rfl
theorem open_addrV {W : World} {r : Reach} {b0 : Nat} {v : Value} {d : DataW H} {p : List MemPlace} (hv : Value.okWide Tryd.prog W r b0 27 v) (h : DataW.Trod enc Tryd.prog w base spare held 27 v d p) : ∃ s : Ad, v = adV s ∧ AdIn s := by
  obtain ⟨cs, rfl, hsz⟩ := okWide_struct Tryd.underlying27 hv
  rw [Tryd.cellsAddr] at hsz
  obtain ⟨l⟩ := cs
  obtain ⟨fuel, hf⟩ := h
  match l, hsz with
  | [c0, c1, c2], _ =>
    obtain ⟨s, rfl, rfl, rfl, hs⟩ := open_addr (c0 := c0) (c1 := c1) (c2 := c2) hf
    exact ⟨s, rfl, hs⟩
end

/-- what the listed variable's condition gives: its six bytes -/
theorem head_of_laid {W : World} (h : laidMetH Tryd.prog [("exchangepoint/arp.head", Rows.laid_exchangepoint_arp_head)] W) : HeadAt W := by
  rw [MakeChecks.laidMetH_plain _ _ _ (by kernel_rfl)] at h
  obtain ⟨ps, ⟨g0, t0, cs0, f0, p0, q0, hg0, ht0, hv0, hd0, _, _⟩, _, _⟩ := h
  obtain rfl := Option.some.inj (Tryd.gHead.symm.trans hg0)
  obtain rfl := Option.some.inj (Tryd.tHead.symm.trans ht0)
  obtain ⟨a, b, c, d, e, f, e1, e2, _⟩ := open_six Tryd.underlying23 (by kernel_rfl) hd0
  simp only [Rows.laid_exchangepoint_arp_head, DataW.agg.injEq, List.cons.injEq, DataW.lit.injEq, Lit.int.injEq, true_and, and_true] at e2
  obtain ⟨rfl, rfl, rfl, rfl, rfl, rfl⟩ := e2
  obtain ⟨l⟩ := cs0
  simp only at e1
  subst e1
  have hc : ∀ i, W.cell? ⟨0, i, none⟩ = _ := fun i => World.var?_cell Tryd.gHead hv0 i
  have hlt := World.block_lt_of_cell? W _ ((hc 0).trans (by rfl))
  refine ⟨rfl, fun _ => ⟨0, 0, rfl, hlt, fun j u hu => ?_⟩⟩
  rw [Nat.zero_add, hc j, ← hu, List.getElem?_toArray]
  rfl

end Go.Proofs.YtopkbpigaengeaaDoor
