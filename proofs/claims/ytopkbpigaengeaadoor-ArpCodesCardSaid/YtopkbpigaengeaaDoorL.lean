/-
  Packets: copies of bytes, a hop, and when two packets are the same.
-/
import Derived.Test.YtopkbpigaengeaaDoorI
import Derived.Test.YtopkbpigaengeaaDoorM
import Derived.Laws.BytesArg
namespace Go.Proofs.YtopkbpigaengeaaDoor
open Go.RowKit

/-- v is a slice that reads as the bytes bs -/
def PData (w : World) (v : Value) (bs : List Int) : Prop := ∃ A c, v = .slice A bs.length c ∧ Reads w w.heap.size 1 A bs.length (bytesV bs)
theorem PData.ext {w w' : World} {v : Value} {bs : List Int} (h : PData w v bs) (e : Ext w w') : PData w' v bs := by
  obtain ⟨A, c, hv, hr⟩ := h
  exact ⟨A, c, hv, hr.ext e⟩
theorem PData.of_own {w : World} {base : Nat} {v : Value} {bs : List Int} (h : w.ownsRow base 5 1 v bs.length (bytesV bs)) : PData w v bs := by
  rcases h.2 with ⟨rfl, hn⟩ | ⟨g, cap, cur, rfl, _⟩
  · refine ⟨none, 0, by rw [hn], ?_⟩
    have : bs = [] := List.eq_nil_of_length_eq_zero hn
    subst this
    exact Reads.none_
  · exact ⟨_, _, rfl, Reads.of_own h⟩
theorem str_any {w : World} {B c : Nat} {A : Option Addr} {bs : List Int} (h : Reads w B 1 A bs.length (bytesV bs)) : (convert 38 9 (.slice A bs.length c)).run Tryd.prog w = .ok (.string (strOfNums bs)) w := by
  rcases Nat.eq_zero_or_pos bs.length with h0 | h0
  · have : bs = [] := List.eq_nil_of_length_eq_zero h0
    subst this
    rcases A with _ | ⟨b, off, s⟩
    · exact run_convert_bytes_nil (P := Tryd.prog) w 38 5 Tryd.underlying38 Tryd.underlying5 _ _ _ Tryd.underlying9
    · rw [run_convert_bytes_string w _ _ 5 _ _ _ Tryd.underlying38 Tryd.underlying5 Tryd.underlying9]
      refine (run_bytesToString (P := Tryd.prog) w ⟨b, off, s⟩ 0 c [] ?_).trans rfl
      rfl
  · obtain ⟨b, off, rfl, _, hc⟩ := h.2 h0
    refine run_convert_bytes_arg (P := Tryd.prog) w 38 5 Tryd.underlying38 Tryd.underlying5 b off _ c bs rfl (fun i hi => ?_) _ Tryd.underlying9
    refine hc i _ ?_
    simp only [bytesV, List.getElem?_map]
    rw [List.getElem?_eq_getElem hi]
    simp [List.getD, hi]

theorem own_empty (w : World) (t : TypeId) : (w.alloc (.cells #[] t)).ownsRow w.heap.size t 1 (.slice (some ⟨w.heap.size, 0, none⟩) 0 0) 0 (bytesV []) :=
  ⟨rfl, .inr ⟨w.heap.size, 0, #[], rfl, Nat.le_refl _, heap_alloc_new w _, Nat.le_refl _, by unfold maxLen; omega, rfl, rfl⟩⟩
theorem own_slice {w : World} {base e size n : Nat} {v : Value} {xs : List Value} (h : w.ownsRow base e size v n xs) : ∃ A n c, v = .slice A n c := by
  rcases h.2 with ⟨e, _⟩ | ⟨k, cap, c, e, _⟩
  · exact ⟨_, _, _, e⟩
  · exact ⟨_, _, _, e⟩
theorem own_apart {w w' : World} {base n k : Nat} {t : TypeId} {cs : Array Value} {v : Value} {xs : List Value} (h : w.ownsRow base 5 1 v n xs) (hk : Keep (· = k) w w') (hb : Blk w k t cs) (ht : 5 ≠ t) : w'.ownsRow base 5 1 v n xs :=
  own_keep h hk fun j hj e => own_blk_ne h hb ht (by rw [hj, e])
theorem Ext.keep {w w1 w2 : World} {k : Nat} (h : Ext w w1) (hk : Keep (· = k) w1 w2) (hw : w.heap.size ≤ k) : Ext w w2 :=
  ⟨hk.os.trans h.os, hk.tape.trans h.tape, hk.output.trans h.output, Nat.le_trans h.size hk.size, fun i hi => (hk.block i (Nat.lt_of_lt_of_le hi h.size) (by omega)).trans (h.block i hi)⟩

end Go.Proofs.YtopkbpigaengeaaDoor
