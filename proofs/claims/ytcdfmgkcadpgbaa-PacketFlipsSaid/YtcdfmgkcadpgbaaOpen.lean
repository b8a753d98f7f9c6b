/-
  A packet that came in by value, opened: its nine cells, and its data as bytes.
-/
import Derived.Test.YtcdfmgkcadpgbaaL
import Derived.Test.YtcdfmgkcadpgbaaLaw
import Derived.Lib.SmallJoins
import Derived.Deep.Strs
namespace Go.Proofs.Ytcdfmgkcadpgbaa
open Go.ChangeShapes Go.WideShapes Go.ChangeAt Go.RowKit Go.Joins

theorem Try.cellsU8 : Try.prog.cellsOf 5 = 1 := by kernel_rfl
theorem Try.cellsBool : Try.prog.cellsOf 4 = 1 := by kernel_rfl
theorem Try.cellsU64 : Try.prog.cellsOf 30 = 1 := by kernel_rfl
theorem Try.cellsInt : Try.prog.cellsOf 3 = 1 := by kernel_rfl
theorem Try.cellsSl : Try.prog.cellsOf 22 = 1 := by kernel_rfl
theorem Try.cellsAddr : Try.prog.cellsOf 32 = 3 := by kernel_rfl
theorem Try.cellsPkt : Try.prog.cellsOf 34 = 9 := by kernel_rfl
theorem isB_of_wf {zs : List Int} (h : ∀ n ∈ zs, (Lit.int .u8 n).wf = true) : IsB zs := fun x hx => bounds_u8 (h x hx)
theorem array9 {cs : Array Value} (h : cs.size = 9) : ∃ c0 c1 c2 c3 c4 c5 c6 c7 c8, cs = #[c0, c1, c2, c3, c4, c5, c6, c7, c8] := by
  obtain ⟨l⟩ := cs
  match l, h with
  | [c0, c1, c2, c3, c4, c5, c6, c7, c8], _ => exact ⟨c0, c1, c2, c3, c4, c5, c6, c7, c8, rfl⟩

section
variable {H : Type} {enc : TypeId × Value → H} {w : World} {base : Nat} {spare : Nat → Bool} {held : Bool}
theorem open_data {n : Nat} {v : Value} {y : DataW H × List MemPlace} (h : DataW.trod enc Try.prog w base spare held n 22 [v] = some y) : ∃ bs, IsB bs ∧ PData w v bs := by
  rcases open_ints Try.underlying22 Try.underlying5 Try.cellsU8 h with ⟨hcs, hx⟩ | ⟨a, len', cap', zs, hcs, _, hl, hm, hz, hx, hcell, hwz⟩
  · simp at hcs
    subst hcs
    exact ⟨[], (fun x hx => by cases hx), none, 0, rfl, Reads.none_⟩
  · simp at hcs
    subst hcs
    have hlen : len' ≤ zs.length := by rw [hz]; split <;> omega
    have e : (zs.take len').length = len' := by simp [hlen]
    refine ⟨zs.take len', isB_of_wf fun n hn => hwz n (List.mem_of_mem_take hn), some a, cap', by rw [e], ?_⟩
    have hr := reads_ints (B := w.heap.size) (len := len') hlen hcell rfl
    rw [e]
    exact hr
theorem open_addr {n : Nat} {c0 c1 c2 : Value} {y : DataW H × List MemPlace} (h : DataW.trod enc Try.prog w base spare held n 32 [c0, c1, c2] = some y) : ∃ s : Ad, c0 = .bool s.v6 ∧ c1 = .int .u64 s.hi ∧ c2 = .int .u64 s.lo := by
  obtain ⟨y0, y1, y2, m, _, _, h0, h1, h2⟩ := Go.Deep.trod_struct3 Try.underlying32 h
  simp only [Try.cellsBool, Try.cellsU64] at h0 h1 h2
  obtain ⟨b, e0, _⟩ := DataW.trod_bool Try.underlying4 h0
  obtain ⟨hi, e1, _⟩ := DataW.trod_int Try.underlying30 h1
  obtain ⟨lo, e2, _⟩ := DataW.trod_int Try.underlying30 h2
  simp at e0 e1 e2
  exact ⟨⟨b, hi, lo⟩, e0, e1, e2⟩
theorem open_pkt {W : World} {r : Reach} {b0 : Nat} {v : Value} {d : DataW H} {p : List MemPlace} (hv : Value.okWide Try.prog W r b0 34 v) (h : DataW.Trod enc Try.prog w base spare held 34 v d p) :
    ∃ (s d : Ad) (p t : Int) (bs : List Int) (u : Value), v = pkV s d p t u ∧ (-9223372036854775808 ≤ t ∧ t ≤ 9223372036854775807) ∧ IsB bs ∧ PData w u bs := by
  obtain ⟨cs, rfl, hsz⟩ := okWide_struct Try.underlying34 hv
  obtain ⟨c0, c1, c2, c3, c4, c5, c6, c7, c8, rfl⟩ := array9 (hsz.trans Try.cellsPkt)
  obtain ⟨fuel, hf⟩ := h
  obtain ⟨xs, n, _, _, _, hlen, hfl⟩ := DataW.trod_struct Try.underlying34 hf
  match xs, hlen with
  | [y0, y1, y2, y3, y4], _ =>
    have h0 := hfl 0 _ rfl
    have h1 := hfl 1 _ rfl
    have h2 := hfl 2 _ rfl
    have h3 := hfl 3 _ rfl
    have h4 := hfl 4 _ rfl
    obtain ⟨s, rfl, rfl, rfl⟩ := open_addr (c0 := c0) (c1 := c1) (c2 := c2) h0
    obtain ⟨d, rfl, rfl, rfl⟩ := open_addr (c0 := c3) (c1 := c4) (c2 := c5) h1
    obtain ⟨p, e2, _⟩ := DataW.trod_int Try.underlying3 h2
    obtain ⟨t, e3, _, ht⟩ := DataW.trod_int Try.underlying3 h3
    simp [Value.cells, Try.cellsInt] at e2 e3
    subst e2 e3
    obtain ⟨bs, hB, hP⟩ := open_data (v := c8) h4
    exact ⟨s, d, p, t, bs, c8, rfl, bounds_i64 ht, hB, hP⟩
end
end Go.Proofs.Ytcdfmgkcadpgbaa
