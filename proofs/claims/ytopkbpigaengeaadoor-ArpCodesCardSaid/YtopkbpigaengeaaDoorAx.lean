/-
  Messages that may be wrong, encoded by both.
-/
import Derived.Test.YtopkbpigaengeaaDoorAer
import Derived.Test.YtopkbpigaengeaaDoorAdr
import Derived.Test.YtopkbpigaengeaaDoorAo
namespace Go.Proofs.YtopkbpigaengeaaDoor
open Go.RowKit Go.ChangeShapes Go.WideShapes Go.ChangeAt Go.Joins

def MsgIn (m : Msg) : Prop := MacOk m.fm ∧ MacOk m.tm ∧ AdIn m.sa ∧ AdIn m.da
theorem MsgOk.in_ {m : Msg} (h : MsgOk m) : MsgIn m := by
  obtain ⟨_, h1, ⟨_, a, b, c⟩, h2, ⟨_, d, e, f⟩⟩ := h
  refine ⟨h1, h2, ⟨⟨?_, ?_⟩, ?_, ?_⟩, ⟨⟨?_, ?_⟩, ?_, ?_⟩⟩ <;> omega
theorem MsgIn.ok {m : Msg} (h : MsgIn m) (hv : validM m = true) : MsgOk m := by
  obtain ⟨h1, h2, ⟨_, hs⟩, ⟨_, hd⟩⟩ := h
  unfold validM validA at hv
  simp only [Bool.and_eq_true, Bool.or_eq_true, beq_iff_eq, Bool.not_eq_true', decide_eq_true_eq] at hv
  obtain ⟨a, b, c, d, e⟩ := hv
  rw [c] at b
  rw [e] at d
  simp only [Bool.false_eq_true, false_or] at b d
  exact ⟨a, h1, ⟨c, b.1, hs.1, by omega⟩, h2, ⟨e, d.1, hd.1, by omega⟩⟩
def encX (m : Msg) : List Int := if validM m = true then encM m else []
def codeX (m : Msg) : Int := if validM m = true then 0 else 1
def EncPost (m : Msg) (w : World) (e : Ending) (w' : World) : Prop := ∃ A c, e = .returned (.tuple #[.slice A (encX m).length c, .int .i64 (codeX m)]) ∧ (encX m).length ≤ c ∧ Reads w' w'.heap.size 1 A (encX m).length (bytesV (encX m)) ∧ Ext w w'
theorem encX_isB {m : Msg} (h : MsgIn m) : IsB (encX m) := by
  unfold encX
  split
  · rename_i hv; exact encM_isB (h.ok hv)
  · exact fun x hx => by cases hx
theorem encX_len (m : Msg) : (encX m).length ≤ 28 := by
  unfold encX
  split
  · rw [encM_len]; omega
  · simp

theorem aencX_any (m : Msg) (w : World) (h : MsgIn m) (hh : HeadAt w) : Calls Tryd.prog 17 #[arpV m] w (EncPost m w) := by
  by_cases hv : validM m = true
  · refine (aenc_ok m w (h.ok hv) hh).mono ?_
    rintro e w' ⟨v, rfl, ⟨A, c, rfl, hc, hr⟩, hE⟩
    unfold EncPost encX codeX
    rw [if_pos hv, if_pos hv]
    exact ⟨A, c, rfl, hc, hr, hE⟩
  · have hv0 : validM m = false := by simpa using hv
    refine (aenc_bad m w hv0).mono ?_
    rintro e w' ⟨rfl, hE⟩
    unfold EncPost encX codeX
    rw [if_neg hv, if_neg hv]
    exact ⟨none, 0, rfl, Nat.le_refl _, Reads.none_, hE⟩
theorem rencX_any (m : Msg) (w : World) (h : MsgIn m) : Calls Tryd.prog 16 #[arpV m] w (EncPost m w) := by
  by_cases hv : validM m = true
  · refine (renc_ok m w (h.ok hv)).mono ?_
    rintro e w' ⟨v, rfl, ⟨A, c, rfl, hc, hr⟩, hE⟩
    unfold EncPost encX codeX
    rw [if_pos hv, if_pos hv]
    exact ⟨A, c, rfl, hc, hr, hE⟩
  · have hv0 : validM m = false := by simpa using hv
    refine (renc_bad m w hv0).mono ?_
    rintro e w' ⟨rfl, hE⟩
    unfold EncPost encX codeX
    rw [if_neg hv, if_neg hv]
    exact ⟨none, 0, rfl, Nat.le_refl _, Reads.none_, hE⟩

theorem open_arpV {H : Type} {enc : TypeId × Value → H} {w : World} {base : Nat} {spare : Nat → Bool} {held : Bool} {W : World} {r : Reach} {b0 : Nat} {v : Value} {d : DataW H} {p : List MemPlace} (hv : Value.okWide Tryd.prog W r b0 29 v) (h : DataW.Trod enc Tryd.prog w base spare held 29 v d p) : ∃ m : Msg, v = arpV m ∧ MsgIn m := by
  obtain ⟨cs, rfl, hsz⟩ := okWide_struct Tryd.underlying29 hv
  rw [Tryd.cellsArp] at hsz
  obtain ⟨fuel, hf⟩ := h
  obtain ⟨xs, n, _, _, _, hlen, hfl⟩ := DataW.trod_struct Tryd.underlying29 hf
  obtain ⟨l⟩ := cs
  match l, hsz with
  | [c0, c1, c2, c3, c4, c5, c6, c7, c8, c9, c10, c11, c12, c13, c14, c15, c16, c17, c18], _ =>
  match xs, hlen with
  | [y0, y1, y2, y3, y4], _ =>
    have h0 := hfl 0 _ rfl
    have h1 := hfl 1 _ rfl
    have h2 := hfl 2 _ rfl
    have h3 := hfl 3 _ rfl
    have h4 := hfl 4 _ rfl
    obtain ⟨op, e0, _⟩ := DataW.trod_int Tryd.underlying3 (cs := [c0]) h0
    obtain ⟨fm, e1, hfm⟩ := open_mac (cs := [c1, c2, c3, c4, c5, c6]) h1
    obtain ⟨sa, e7, e8, e9, hsa⟩ := open_addr (c0 := c7) (c1 := c8) (c2 := c9) h2
    obtain ⟨tm, e10, htm⟩ := open_mac (cs := [c10, c11, c12, c13, c14, c15]) h3
    obtain ⟨da, e16, e17, e18, hda⟩ := open_addr (c0 := c16) (c1 := c17) (c2 := c18) h4
    simp only [macC, List.cons.injEq, and_true] at e0 e1 e10
    obtain ⟨rfl, rfl, rfl, rfl, rfl, rfl⟩ := e1
    obtain ⟨rfl, rfl, rfl, rfl, rfl, rfl⟩ := e10
    subst e0 e7 e8 e9 e16 e17 e18
    exact ⟨⟨op, fm, sa, tm, da⟩, rfl, hfm, htm, hsa, hda⟩
end Go.Proofs.YtopkbpigaengeaaDoor
