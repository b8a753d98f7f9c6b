/-
  Numbers of two bytes; the check sums of data between two addresses.
-/
import Derived.Test.YtopkbpigaengeaaDoorH
import Derived.Test.YtopkbpigaengeaaDoorShelf
namespace Go.Proofs.YtopkbpigaengeaaDoor
open Go.RowKit

theorem IsB.list2 {x y : Int} (hx : 0 ≤ x ∧ x ≤ 255) (hy : 0 ≤ y ∧ y ≤ 255) : IsB [x, y] := (IsB.one hx).append (IsB.one hy)

/-- bytes as Go's library's contracts have them -/
def toU (bs : List Int) : List UInt8 := bs.map fun x => UInt8.ofNat x.toNat
theorem toU_len (bs : List Int) : (toU bs).length = bs.length := by simp [toU]
theorem toU_at {bs : List Int} (h : IsB bs) {i : Nat} {x : UInt8} (hx : (toU bs)[i]? = some x) : (bytesV bs)[i]? = some (.int .u8 (x.toNat : Int)) := by
  simp only [toU, List.getElem?_map, Option.map_eq_some_iff] at hx
  obtain ⟨y, hy, rfl⟩ := hx
  have hb := h y (List.mem_of_getElem? hy)
  simp only [bytesV, List.getElem?_map, hy, Option.map_some]
  congr 2
  rw [UInt8.toNat_ofNat']
  omega
theorem toU_map {bs : List Int} (h : IsB bs) : (toU bs).map (fun x => Value.int .u8 (x.toNat : Int)) = bytesV bs := by
  unfold toU bytesV
  rw [List.map_map]
  refine List.map_congr_left fun y hy => ?_
  have hb := h y hy
  show Value.int .u8 ((UInt8.ofNat y.toNat).toNat : Int) = _
  congr 1
  rw [UInt8.toNat_ofNat']
  omega
theorem holds_of {w : World} {B c : Nat} {A : Option Addr} {bs : List Int} (h : Reads w B 1 A bs.length (bytesV bs)) (hB : IsB bs) : Lib.HoldsBytes w (.slice A bs.length c) (toU bs) := by
  refine ⟨A, c, by rw [toU_len], ?_, ?_⟩
  · rintro rfl
    rcases Nat.eq_zero_or_pos bs.length with h0 | h0
    · simp [toU, List.eq_nil_of_length_eq_zero h0]
    · obtain ⟨b, off, e, _⟩ := h.2 h0
      cases e
  · rintro a rfl i x hx
    have hi : i < bs.length := by
      have := (List.getElem?_eq_some_iff.1 hx).1
      rwa [toU_len] at this
    obtain ⟨b, off, e, _, hc⟩ := h.2 (by omega)
    injection e with e
    subst e
    rw [Addr.add_lit]
    exact hc i _ (toU_at hB hx)
theorem reads_fresh {B : Nat} {w : World} {v : Value} {l : List UInt8} (h : Lib.FreshBytes B w v l) :
    ∃ A c, v = .slice A l.length c ∧ Reads w w.heap.size 1 A l.length (l.map fun x => Value.int .u8 (x.toNat : Int)) := by
  obtain ⟨g, cap, zs, rfl, hg, hl, hm, hz, hzb, hzl, hc, _⟩ := h
  refine ⟨_, cap, rfl, by simp, fun hn => ⟨g, 0, rfl, World.block_lt_of_cell? w _ (hc 0 (by omega)), fun j u hu => ?_⟩⟩
  have hj : j < l.length := by
    have := (List.getElem?_eq_some_iff.1 hu).1
    simpa using this
  rw [Nat.zero_add, hc j (by omega)]
  rw [List.getElem?_map, List.getElem?_eq_getElem hj] at hu
  have e : l[j]? = some (UInt8.ofNat (zs.getD j 0).toNat) := by
    have hj2 : j < zs.length := by omega
    rw [← hzl]
    simp [Lib.bytesOf, List.getElem?_take, hj, hj2, List.getD]
  rw [List.getElem?_eq_getElem hj] at e
  injection e with e
  simp only [Option.map_some] at hu
  rw [← hu, e]
  have hb := hzb (zs.getD j 0) (by rw [List.getD_eq_getElem?_getD, List.getElem?_eq_getElem (show j < zs.length by omega)]; exact List.getElem_mem _)
  congr 2
  rw [UInt8.toNat_ofNat']
  omega

/-- memory has grown, nothing has changed -/
abbrev Ext (w w' : World) : Prop := Below w.heap.size w w'
theorem Ext.refl (w : World) : Ext w w := Below.refl _ _
theorem Ext.trans {a b c : World} (h : Ext a b) (k : Ext b c) : Ext a c := Below.trans h (Below.mono k (Below.size h))
theorem Ext.alloc {a w : World} (h : Ext a w) (o : Obj) : Ext a (w.alloc o) := Below.alloc h (Below.size h) o
theorem Ext.drew {a w : World} (h : Ext a w) : Ext a w.drew := Below.drew h
theorem Reads.ext {w w' : World} {size n : Nat} {A : Option Addr} {xs : List Value} (h : Reads w w.heap.size size A n xs) (e : Ext w w') : Reads w' w'.heap.size size A n xs :=
  (h.below e).more (Below.size e)
theorem Reads.extAlloc {w : World} {size n : Nat} {A : Option Addr} {xs : List Value} (h : Reads w w.heap.size size A n xs) (o : Obj) : Reads (w.alloc o) (w.alloc o).heap.size size A n xs := h.ext ((Ext.refl w).alloc o)
theorem Reads.extDrew {w : World} {size n : Nat} {A : Option Addr} {xs : List Value} (h : Reads w w.heap.size size A n xs) : Reads w.drew w.drew.heap.size size A n xs := h
theorem own_ext {w w' : World} {base e size n : Nat} {v : Value} {xs : List Value} (h : w.ownsRow base e size v n xs) (k : Ext w w') : w'.ownsRow base e size v n xs := by
  obtain ⟨h1, h2 | ⟨g, cap, cur, hv, hg, hh, r⟩⟩ := h
  · exact ⟨h1, .inl h2⟩
  · exact ⟨h1, .inr ⟨g, cap, cur, hv, hg, (Below.block k g (Array.getElem?_eq_some_iff.1 hh).1).trans hh, r⟩⟩

/-- the bytes of an address, valid or not -/
def addrB1 (v6 : Bool) (hi lo : Int) : List Int := if validA v6 hi lo then addrB v6 hi lo else []
theorem addrB_len (v6 : Bool) (hi lo : Int) : (addrB v6 hi lo).length = if v6 then 16 else 4 := by unfold addrB; rw [beN_len]

end Go.Proofs.YtopkbpigaengeaaDoor
