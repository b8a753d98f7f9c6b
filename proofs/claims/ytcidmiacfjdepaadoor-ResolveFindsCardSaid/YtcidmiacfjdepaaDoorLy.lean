/-
  The listed variable holds what the abstract machine says it holds; numbers and lists of numbers, as they come in.
-/
import Derived.Test.YtcidmiacfjdepaaDoorMab
import Derived.Test.YtcidmiacfjdepaaDoorGt
import Derived.Test.YtcidmiacfjdepaaDoorLw
import Derived.Test.YtcidmiacfjdepaaDoorCards
import Derived.Test.YtcidmiacfjdepaaDoorTie
import Derived.SevenTiedAt
import Derived.LaidMore
import Derived.LaidHandle
import Derived.OpenShut
namespace Go.Proofs.YtcidmiacfjdepaaDoor
open Go.ChangeShapes Go.WideShapes Go.ChangeAt Go.RowKit

theorem Tryd.gHead : Tryd.prog.globalNamed "exchangepoint/arp.head" = some 0 := by kernel_rfl
theorem Tryd.tHead : (Tryd.prog.globals[0]?).map (·.type) = some 49 := by kernel_rfl
set_option maxRecDepth 20000 in
theorem open_u8s {H : Type} {enc : TypeId × Value → H} {w : World} {base : Nat} {spare : Nat → Bool} {held : Bool} {fuel : Nat} {t : TypeId} {n : Nat} {cs : List Value} {y : DataW H × List MemPlace}
    (ht : Tryd.prog.underlying t = some (.array n 5)) (hc : Tryd.prog.cellsOf t = n) (h : DataW.trod enc Tryd.prog w base spare held fuel t cs = some y) :
    ∃ ks : List Int, cs = ks.map (Value.int .u8) ∧ y.1 = .agg (ks.map fun k => .lit (.int .u8 k)) := by
  obtain ⟨xs, m, _, hx, hl, hn, hel⟩ := DataW.trod_array ht h
  have hce : Tryd.prog.cellsOf 5 = 1 := by kernel_rfl
  rw [hc] at hl
  rw [hce] at hel
  have key : ∀ i, i < n → ∃ k : Int, cs[i]? = some (.int .u8 k) ∧ (xs[i]?).map (·.1) = some (.lit (.int .u8 k)) := fun i hi => by
    have h1 := hel i hi
    rw [Nat.mul_one] at h1
    have h2 : xs[i]? = some xs[i] := List.getElem?_eq_getElem (by omega)
    rw [h2] at h1
    obtain ⟨k, e1, e2, _⟩ := DataW.trod_int Tryd.underlying5 h1
    refine ⟨k, ?_, by rw [h2]; simp [e2]⟩
    have h3 : ((cs.drop i).take 1)[0]? = some (.int .u8 k) := by rw [e1]; rfl
    simpa using h3
  have hks : ∃ ks : List Int, ks.length = n ∧ ∀ i, i < n → ∀ k, cs[i]? = some (.int .u8 k) → ks[i]? = some k := by
    refine ⟨cs.map fun v => match v with
      | .int _ z => z
      | _ => 0, by simpa using hl, fun i hi k hk => by simp [hk]⟩
  obtain ⟨ks, hkl, hk⟩ := hks
  refine ⟨ks, ?_, ?_⟩
  · refine List.ext_getElem? fun i => ?_
    by_cases hi : i < n
    · obtain ⟨k, h1, _⟩ := key i hi
      rw [h1, List.getElem?_map, hk i hi k h1]; rfl
    · rw [List.getElem?_eq_none (by omega), List.getElem?_eq_none (by simp; omega)]
  · rw [hx]
    show DataW.agg _ = _
    congr 1
    refine List.ext_getElem? fun i => ?_
    by_cases hi : i < n
    · obtain ⟨k, h1, h2⟩ := key i hi
      rw [List.getElem?_map, h2, List.getElem?_map, hk i hi k h1]; rfl
    · rw [List.getElem?_eq_none (by simp; omega), List.getElem?_eq_none (by simp; omega)]
theorem lits_inj {H : Type} {a b : List Int} (h : (a.map fun k => (DataW.lit (.int .u8 k) : DataW H)) = b.map fun k => .lit (.int .u8 k)) : a = b := by
  induction a generalizing b with
  | nil => cases b with
    | nil => rfl
    | cons y b => cases h
  | cons x a ih =>
    cases b with
    | nil => cases h
    | cons y b =>
      simp only [List.map_cons, List.cons.injEq, DataW.lit.injEq, Lit.int.injEq, true_and] at h
      rw [h.1, ih h.2]
/-- what the listed variable's condition gives -/
theorem glob_of_laid {W : World} (h : laidMetH Tryd.prog [("exchangepoint/arp.head", Rows.laid_exchangepoint_arp_head)] W) : Glob (fun _ => False) W := by
  rw [MakeChecks.laidMetH_plain _ _ _ (by kernel_rfl)] at h
  obtain ⟨ps, ⟨g1, t1, cs1, f1, p1, q1, hg1, ht1, hv1, hd1, _, _⟩, _, _⟩ := h
  obtain rfl := Option.some.inj (Tryd.gHead.symm.trans hg1)
  obtain rfl := Option.some.inj (Tryd.tHead.symm.trans ht1)
  obtain ⟨ks, e1, e2⟩ := open_u8s Tryd.underlying49 (by kernel_rfl) hd1
  rw [show (Rows.laid_exchangepoint_arp_head : DataW Unit) = .agg (([0, 1, 8, 0, 6, 4] : List Int).map fun k => .lit (.int .u8 k)) from rfl] at e2
  have e3 := lits_inj (DataW.agg.inj e2)
  subst e3
  obtain ⟨l⟩ := cs1
  simp only at e1
  subst e1
  have hc : ∀ i, W.cell? ⟨0, i, none⟩ = _ := fun i => World.var?_cell Tryd.gHead hv1 i
  have hlt := World.block_lt_of_cell? W _ ((hc 0).trans (by rfl))
  intro g vs hg
  have hg1 : g = 0 ∧ vs = ([0, 1, 8, 0, 6, 4] : List Int).map (Value.int .u8) := by
    unfold gRaw at hg
    split at hg
    · injection hg with hg; exact ⟨rfl, hg.symm⟩
    · cases hg
  obtain ⟨rfl, rfl⟩ := hg1
  refine ⟨hlt, fun h => h, fun i v hv => ?_⟩
  rw [hc i, ← hv, List.getElem?_toArray]
section
variable {H : Type} {enc : TypeId × Value → H}
theorem opInt : Opens enc Tryd.prog 3 (fun (z : Int) => [.base (.int .i64 z)]) (fun z => (Lit.int .i64 z).wf = true) := .int Tryd.underlying3
theorem opInts : Opens enc Tryd.prog 22 (fun (l : List Int) => [.isl (l.map fun z => .base (.int .i64 z)) l.length]) (fun l => l.length ≤ 9223372036854775807) :=
  (Opens.slice (n := 1) Tryd.underlying22 opInt (by kernel_rfl) (by decide) (fun _ _ => rfl)).map id (fun l _ => by rw [List.map_eq_flatMap]; rfl) (fun l h => by have := h.1; unfold maxLen at this; simp only [id]; omega)
end
end Go.Proofs.YtcidmiacfjdepaaDoor
