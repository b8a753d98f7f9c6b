/-
  Parts: both texts; comparing lists of numbers.
-/
import Derived.Test.YtbjfaepjpmogjaaDoorFe
namespace Go.Proofs.YtbjfaepjpmogjaaDoor
open Go.RowKit

def lst (p : Nat → Bool) (k : Nat) : Int := (List.range k).foldl (fun (m : Int) t => if p t = true ∧ m < 0 then (t : Int) else m) (-1)
theorem lst_succ (p : Nat → Bool) (k : Nat) : lst p (k + 1) = if p k = true ∧ lst p k < 0 then (k : Int) else lst p k := by
  unfold lst; rw [List.range_succ, List.foldl_append]; rfl
/-- the least one that is joined -/
def partsF (f : Fab) : List Int := (List.range f.dead.length).map fun (i : Nat) => lst (fun s => decide (0 ≤ gI (dist f s) i)) f.dead.length
def partsX (f : Fab) : List Int := (List.range f.dead.length).map fun (s : Nat) => lst (fun t => decide (0 ≤ gI (dist f s) t)) f.dead.length
theorem tab_at {g : Nat → Int} {n k : Nat} (h : k < n) : gI ((List.range n).map g) k = g k := by
  rw [gI_at (by simpa using h)]; simp
theorem tab_congr {g g2 : Nat → Int} {n : Nat} (h : ∀ x, x < n → g x = g2 x) : (List.range n).map g = (List.range n).map g2 := by
  refine List.map_congr_left fun x hx => h x (by simpa using hx)
theorem tab_set {g g2 : Nat → Int} {n k : Nat} {v : Int} (hv : g2 k = v) (h : ∀ x, x < n → x ≠ k → g x = g2 x) : ((List.range n).map g).set k v = (List.range n).map g2 := by
  refine List.ext_getElem (by simp) fun i h1 h2 => ?_
  simp only [List.length_set, List.length_map, List.length_range] at h1
  rw [List.getElem_set]
  split
  · rename_i e; subst e; simp [hv]
  · rename_i e; simp [h i h1 (fun e2 => e e2.symm)]
theorem dist_minus (f : Fab) (x : Int) (h : x < 0) : dist f x = List.replicate f.dead.length (-1) := by
  refine distW_dead ?_
  unfold aliveB
  have : ¬ 0 ≤ x := by omega
  simp [this]
theorem ni_at1 {l : List Int} {k : Nat} (h : k < l.length) : (intsC l)[k * 1]? = some (.base (.int .i64 (gI l k))) := by
  rw [← Nat.zero_add (k * 1)]; exact ni_at h
theorem distances_isl (f : Fab) (hf : FabS f) (to : Int) : AFn Tryd.prog 53 0 [.agg (fabC f), .base (.int .i64 to)] mt (.isl (intsC (dist f to)) f.dead.length) mt :=
  AFn.frozen (distances_own f hf to) (ints_tk (dist_len _ _)) (intsC_pure _)
theorem distancesX_isl (f : Fab) (hf : FabS f) (to : Int) : AFn Tryd.prog 40 0 [.agg (fabC f), .base (.int .i64 to)] mt (.isl (intsC (dist f to)) f.dead.length) mt :=
  AFn.frozen (distancesX_own f hf to) (ints_tk (dist_len _ _)) (intsC_pure _)
end Go.Proofs.YtbjfaepjpmogjaaDoor
