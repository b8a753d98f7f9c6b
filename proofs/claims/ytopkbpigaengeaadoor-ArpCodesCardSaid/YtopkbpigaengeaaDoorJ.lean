/-
  The check sums of data between two addresses.
-/
import Derived.Test.YtopkbpigaengeaaDoorI
namespace Go.Proofs.YtopkbpigaengeaaDoor
open Go.RowKit

theorem bcell {W w1 : World} (hb : Below W.heap.size W w1) : (∀ b o, b < W.heap.size → w1.cell? ⟨b, o, none⟩ = W.cell? ⟨b, o, none⟩) ∧ (∀ b o, b < W.heap.size → w1.frozen? ⟨b, o, none⟩ = W.frozen? ⟨b, o, none⟩) :=
  ⟨fun b o h => hb.cell (p := ⟨b, o, none⟩) h, fun b o h => hb.frozen (p := ⟨b, o, none⟩) h⟩

theorem bcellK {W w1 : World} {K : Nat} (hb : Below W.heap.size W w1) (hK : K ≤ W.heap.size) : (∀ b o, b < K → w1.cell? ⟨b, o, none⟩ = W.cell? ⟨b, o, none⟩) ∧ (∀ b o, b < K → w1.frozen? ⟨b, o, none⟩ = W.frozen? ⟨b, o, none⟩) :=
  ⟨fun b o h => hb.cell (p := ⟨b, o, none⟩) (Nat.lt_of_lt_of_le h hK), fun b o h => hb.frozen (p := ⟨b, o, none⟩) (Nat.lt_of_lt_of_le h hK)⟩

theorem step_u8 {w : World} {ops : Array Oper} {o : Oper} {a : Act} {K : Act → World → Prop} {Q : Exit → Act → World → Prop} {E : Prop} (hgd : o.guard = none) (s x : Operand)
    (ho : o.op = .call { callee := .builtin .append, args := #[s, x], argTypes := #[38, 38] })
    (base : Nat) (v : Value) (n : Nat) (xs : List Int) (hs : a.eval s = v) (hown : w.ownsRow base 5 1 v n (bytesV xs))
    (B : Nat) (A : Option Addr) (m c : Nat) (ys : List Int) (hx : a.eval x = .slice A m c) (hr : Reads w B 1 A m (bytesV ys))
    (hbytes : n + m ≤ 1000000000) (hbase : base ≤ w.heap.size)
    (h : ∀ v' w', w'.ownsRow base 5 1 v' (n + m) (bytesV (xs ++ ys)) → w.grownBy w' v.ownBlock → (v'.ownBlock = v.ownBlock ∨ v'.ownBlock = some w.heap.size) → K (a.put o.dst v') w') :
    if Region.wanted o (yielded ops a.tmps) = true then Oper.wp Tryd.prog o a w K Q else E := by
  obtain ⟨i0, hi, hz0, hz1, hz2⟩ := info_parts Tryd.infoU8
  refine step_append_any w hgd s x 38 ho base 5 i0 (.int .u8 0) 1 1 Tryd.underlying38 hi hz0 hz1 hz2 rfl (by decide) v n (bytesV xs) hs hown B A m c (bytesV ys) hx hr (bytesV_one ys) (by unfold maxLen; omega) (by omega) hbase ?_
  intro v' w' h1 h2 h3
  exact h v' w' (by simpa [bytesV] using h1) h2 h3
theorem Ext.grown {a w w' : World} {row : Option Nat} (h : Ext a w) (hg : w.grownBy w' row) (hr : ∀ k, row = some k → a.heap.size ≤ k) : Ext a w' :=
  Below.grown h hg (Below.size h) hr

theorem bcellG {W w1 : World} {K : Nat} {row : Option Nat} (hg : W.grownBy w1 row) (hK : K ≤ W.heap.size) (hr : ∀ k, row = some k → K ≤ k) : (∀ b o, b < K → w1.cell? ⟨b, o, none⟩ = W.cell? ⟨b, o, none⟩) ∧ (∀ b o, b < K → w1.frozen? ⟨b, o, none⟩ = W.frozen? ⟨b, o, none⟩) :=
  ⟨fun b o h => hg.cell_far ⟨b, o, none⟩ (Nat.lt_of_lt_of_le h hK) (fun e => by have := hr _ e.symm; simp at this; omega), fun b o h => hg.frozen_far ⟨b, o, none⟩ (Nat.lt_of_lt_of_le h hK) (fun e => by have := hr _ e.symm; simp at this; omega)⟩

/-- a row of slices of bytes that was just laid, as the library's contract on Join has it -/
theorem parts_of (w : World) (t : TypeId) (l : List (Option Addr × Nat × Nat × List Int)) (h : ∀ p ∈ l, Reads w w.heap.size 1 p.1 p.2.1 (bytesV p.2.2.2) ∧ IsB p.2.2.2) :
    Lib.PartsAt (w.alloc (.cells (l.map fun p => Value.slice p.1 p.2.1 p.2.2.1).toArray t)) ⟨w.heap.size, 0, none⟩ (l.map fun p => Value.slice p.1 p.2.1 p.2.2.1) (l.map fun p => toU p.2.2.2) := by
  refine ⟨by simp, fun i v hv => ?_, fun i v x hv hx => ?_⟩
  · rw [Addr.add_lit, World.cell?_alloc_at _ _ _ _ rfl]
    simpa using hv
  · simp only [List.getElem?_map, Option.map_eq_some_iff] at hv hx
    obtain ⟨p, hp, rfl⟩ := hv
    obtain ⟨q, hq, rfl⟩ := hx
    rw [hp] at hq
    obtain rfl := Option.some.inj hq
    obtain ⟨hr, hb⟩ := h p (List.mem_of_getElem? hp)
    have hl := hr.1
    rw [bytesV_len, Nat.mul_one] at hl
    rw [← hl]
    rw [← hl] at hr
    exact holds_of (hr.extAlloc _) hb
theorem toU_append (xs ys : List Int) : toU (xs ++ ys) = toU xs ++ toU ys := by simp [toU]
theorem reads_blk {w : World} {g n : Nat} {t : TypeId} {l : List Value} (h : Blk w g t l.toArray) (hn : l.length = n * 1 := by rfl) : Reads w w.heap.size 1 (some ⟨g, 0, none⟩) n l := by
  refine ⟨hn, fun _ => ⟨g, 0, rfl, h.lt, fun j u hu => ?_⟩⟩
  rw [Nat.zero_add, h.cell]
  simpa using hu

end Go.Proofs.YtopkbpigaengeaaDoor
