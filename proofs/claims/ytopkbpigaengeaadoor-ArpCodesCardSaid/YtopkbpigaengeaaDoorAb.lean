/-
  A message is read back from its bytes: the plain law.
-/
import Derived.Test.YtopkbpigaengeaaDoorAd
namespace Go.Proofs.YtopkbpigaengeaaDoor
open Go.RowKit

theorem list4 {α : Type} {xs : List α} (h : xs.length = 4) : ∃ a b c d, xs = [a, b, c, d] := by
  match xs, h with
  | [a, b, c, d], _ => exact ⟨a, b, c, d, rfl⟩
theorem fb_adB {s : Ad} (h : Ad4 s) : fb (adB s) = (0, s.lo) := by
  obtain ⟨_, _, h3, h4⟩ := h
  unfold adB
  refine fb_addrB ?_ ?_ ?_
  · unfold validA; simp [h4]
  · unfold U64; omega
  · unfold U64; omega
theorem dec_back {m : Msg} (hm : MsgOk m) (more : List Int) : codeM (encM m ++ more) = 0 ∧ decM (encM m ++ more) = m := by
  obtain ⟨h1, _, hs, _, hd⟩ := hm
  obtain ⟨a, b, c, d, es⟩ := list4 (adB_len m.sa)
  obtain ⟨a', b', c', d', ed⟩ := list4 (adB_len m.da)
  have fs := fb_adB hs
  have fd := fb_adB hd
  rw [es] at fs
  rw [ed] at fd
  obtain ⟨op, fm, ⟨sv, shi, slo⟩, tm, ⟨dv, dhi, dlo⟩⟩ := m
  obtain ⟨s1, s2, _, _⟩ := hs
  obtain ⟨d1, d2, _, _⟩ := hd
  simp only at *
  subst s1 s2 d1 d2
  have e : encM ⟨op, fm, ⟨false, 0, slo⟩, tm, ⟨false, 0, dlo⟩⟩ ++ more = 0 :: 1 :: 8 :: 0 :: 6 :: 4 :: 0 :: op :: fm.a :: fm.b :: fm.c :: fm.d :: fm.e :: fm.f :: a :: b :: c :: d :: tm.a :: tm.b :: tm.c :: tm.d :: tm.e :: tm.f :: a' :: b' :: c' :: d' :: more := by
    unfold encM
    simp only [es, ed]
    rfl
  rw [e]
  have hop : opM (0 :: 1 :: 8 :: 0 :: 6 :: 4 :: 0 :: op :: fm.a :: fm.b :: fm.c :: fm.d :: fm.e :: fm.f :: a :: b :: c :: d :: tm.a :: tm.b :: tm.c :: tm.d :: tm.e :: tm.f :: a' :: b' :: c' :: d' :: more) = op := by
    show 0 * 256 + op = op
    omega
  have hc : codeM (0 :: 1 :: 8 :: 0 :: 6 :: 4 :: 0 :: op :: fm.a :: fm.b :: fm.c :: fm.d :: fm.e :: fm.f :: a :: b :: c :: d :: tm.a :: tm.b :: tm.c :: tm.d :: tm.e :: tm.f :: a' :: b' :: c' :: d' :: more) = 0 := by
    unfold codeM
    rw [if_neg (by simp only [List.length_cons]; omega), if_pos ⟨rfl, by rw [hop]; exact h1⟩]
  refine ⟨hc, ?_⟩
  unfold decM
  rw [if_pos hc]
  unfold rdM
  rw [hop]
  have a1 : adAt (0 :: 1 :: 8 :: 0 :: 6 :: 4 :: 0 :: op :: fm.a :: fm.b :: fm.c :: fm.d :: fm.e :: fm.f :: a :: b :: c :: d :: tm.a :: tm.b :: tm.c :: tm.d :: tm.e :: tm.f :: a' :: b' :: c' :: d' :: more) 14 = ⟨false, 0, slo⟩ := by
    show (⟨false, (fb [a, b, c, d]).1, (fb [a, b, c, d]).2⟩ : Ad) = _
    rw [fs]
  have a2 : adAt (0 :: 1 :: 8 :: 0 :: 6 :: 4 :: 0 :: op :: fm.a :: fm.b :: fm.c :: fm.d :: fm.e :: fm.f :: a :: b :: c :: d :: tm.a :: tm.b :: tm.c :: tm.d :: tm.e :: tm.f :: a' :: b' :: c' :: d' :: more) 24 = ⟨false, 0, dlo⟩ := by
    show (⟨false, (fb [a', b', c', d']).1, (fb [a', b', c', d']).2⟩ : Ad) = _
    rw [fd]
  rw [a1, a2]
  rfl
end Go.Proofs.YtopkbpigaengeaaDoor
