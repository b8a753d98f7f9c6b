/-
  The deck: a list of numbers that are taken one after the other.
-/
import Derived.Test.YtopkbpigaengeaaDoorA
namespace Go.Proofs.YtopkbpigaengeaaDoor
open Go.RowKit

/-- block g is a deck whose list lies below block B -/
def DeckOk (w : World) (B g : Nat) : Prop :=
  ∃ (A : Option Addr) (len c : Nat) (zs : List Int) (i : Nat), len ≤ 9223372036854775807 ∧ i ≤ len ∧ B ≤ g ∧ Blk w g 54 #[.slice A len c, .int .i64 (i : Int)] ∧ Reads w B 1 A len (zs.map (Value.int .i64))

theorem DeckOk.lt {w : World} {B g : Nat} (h : DeckOk w B g) : g < w.heap.size := by
  obtain ⟨A, len, c, zs, i, _, _, _, hb, _⟩ := h
  exact hb.lt
/-- a deck is kept by what changes neither its block nor what lies below B -/
theorem DeckOk.keep {w w' : World} {B g : Nat} (h : DeckOk w B g) (hk : ∀ k, k < B ∨ k = g → w'.heap[k]? = w.heap[k]?) : DeckOk w' B g := by
  obtain ⟨A, len, c, zs, i, h1, h2, h3, hb, hr⟩ := h
  exact ⟨A, len, c, zs, i, h1, h2, h3, (hk g (.inr rfl)).trans hb, hr.keep fun p hp => World.cell?_of_block (hk p.block (.inl hp))⟩
theorem DeckOk.below {w w' : World} {B g : Nat} (h : DeckOk w B g) (hb : Below w.heap.size w w') : DeckOk w' B g := by
  have hlt := h.lt
  have hB : B ≤ g := by obtain ⟨A, len, c, zs, i, _, _, h3, _⟩ := h; exact h3
  exact h.keep fun k hk => hb.block k (by omega)
theorem DeckOk.grown {w w' : World} {B g : Nat} {row : Option Nat} (h : DeckOk w B g) (hb : w.grownBy w' row) (hr : ∀ k, row = some k → g < k) : DeckOk w' B g := by
  have hlt := h.lt
  have hB : B ≤ g := by obtain ⟨A, len, c, zs, i, _, _, h3, _⟩ := h; exact h3
  exact h.keep fun k hk => hb.block k (by omega) (fun e => by have := hr k e.symm; omega)
theorem DeckOk.alloc {w : World} {B g : Nat} (h : DeckOk w B g) (o : Obj) : DeckOk (w.alloc o) B g := h.below ((Below.refl _ _).alloc (Nat.le_refl _) o)
theorem DeckOk.drew {w : World} {B g : Nat} (h : DeckOk w B g) : DeckOk w.drew B g := h
theorem DeckOk.setCell {w : World} {B g : Nat} (h : DeckOk w B g) {p : Addr} (hp : g < p.block) (u : Value) : DeckOk (w.setCell p u) B g := by
  have hB : B ≤ g := by obtain ⟨A, len, c, zs, i, _, _, h3, _⟩ := h; exact h3
  exact h.keep fun k hk => Below.heap_setCell _ _ _ _ (by omega)

theorem DeckOk.set3 {w : World} {B g r0 : Nat} (h : DeckOk w B g) (hr : g < r0) (x y z : Value) :
    DeckOk (((w.setCell ⟨r0, 0, none⟩ x).setCell ⟨r0, 1, none⟩ y).setCell ⟨r0, 2, none⟩ z) B g :=
  ((h.setCell (p := ⟨r0, 0, none⟩) hr x).setCell (p := ⟨r0, 1, none⟩) hr y).setCell (p := ⟨r0, 2, none⟩) hr z

set_option maxHeartbeats 400000 in
theorem new_any (A : Option Addr) (len c : Nat) (zs : List Int) (w : World) (hl : len ≤ 9223372036854775807) (hr : Reads w w.heap.size 1 A len (zs.map (Value.int .i64))) :
    Calls Tryd.prog 8 #[.slice A len c] w fun e w' => e = .returned (.pointer (some ⟨w.heap.size, 0, none⟩)) ∧ DeckOk w' w.heap.size w.heap.size ∧ Below w.heap.size w w' ∧ w'.heap.size = w.heap.size + 1 := by
  go_enter Tryd.func8, Tryd.ntmps8
  go_wp2
  go_ret
  refine ⟨rfl, ⟨A, len, c, zs, 0, hl, Nat.zero_le _, Nat.le_refl _, Blk.new _ _ _, hr.alloc (Nat.le_refl _) _⟩, (Below.refl _ _).alloc (Nat.le_refl _) _, by simp⟩

set_option maxHeartbeats 1000000 in
theorem next_any (B g : Nat) (n : Int) (w : World) (hn : 1 ≤ n) (hn2 : n ≤ 9223372036854775807) (hd : DeckOk w B g) :
    Calls Tryd.prog 24 #[.pointer (some ⟨g, 0, none⟩), .int .i64 n] w fun e w' =>
      ∃ r : Nat, e = .returned (.int .i64 (r : Int)) ∧ (r : Int) < n ∧ w.grownBy w' (some g) ∧ Hid (w'.heap.size = w.heap.size) ∧ DeckOk w' B g := by
  obtain ⟨A, len, c, zs, i, h1, h2, h3, hb, hr⟩ := hd
  have c0 : w.cell? ⟨g, 0, none⟩ = some (.slice A len c) := by rw [hb.cell]; rfl
  have c1 : w.cell? ⟨g, 1, none⟩ = some (.int .i64 (i : Int)) := by rw [hb.cell]; rfl
  have f1 : w.frozen? ⟨g, 1, none⟩ = false := hb.frozen 1
  by_cases hlt : i < len
  · have hge : decide ((len : Int) ≤ (i : Int)) = false := by simp; omega
    go_enter Tryd.func24, Tryd.ntmps24
    go_wp2
    go_quiet (fail)
    go_wp2
    obtain ⟨b, off, u, rfl, hbB, hu, hcu⟩ := hr.at_ hlt
    obtain ⟨x, rfl⟩ : ∃ x : Int, u = .int .i64 x := by
      rw [List.getElem?_map] at hu
      cases hz : zs[i]? with
      | none => rw [hz] at hu; cases hu
      | some x => rw [hz] at hu; exact ⟨x, (Option.some.inj hu).symm⟩
    have hbg : ¬ b = g := by omega
    have hbg' : ¬ g = b := by omega
    have hw1 : IntKind.i64.wrap ((i : Int) + 1 - 1) = (i : Int) := by rw [IntWalk.i64_in _ (by omega)]; omega
    have hi1 : (i : Int) + 1 - 1 = i := by omega
    clear hge
    go_quiet ((go_at_call 21; exact Calls.quiet_of_same ((mod_any _ _ _ hn hn2).mono fun _ _ ⟨h1, h2⟩ => ⟨h1, h2.symm⟩)))
    go_wp2
    go_ret
    obtain ⟨h0, h4⟩ := modf_bd x n hn
    obtain ⟨r, hr'⟩ := Int.eq_ofNat_of_zero_le h0
    refine ⟨r, ret_eq hr', by omega, ?_, ?_, ?_⟩
    · exact only_drewN (only_setCell (only_drewN (World.grownBy.refl _ _) _) (.inl rfl) _) _
    · show _ = _; simp
    · refine ⟨some ⟨b, off, none⟩, len, c, zs, i + 1, h1, hlt, h3, ?_, ?_⟩
      · exact ((hb.drewN _).set_ 1 (.int .i64 ((i : Int) + 1))).drewN _
      · exact (((hr.drewN _).setCell (p := ⟨g, 1, none⟩) h3 _).drewN _)
  · have hge : decide ((len : Int) ≤ (i : Int)) = true := by simp; omega
    go_enter Tryd.func24, Tryd.ntmps24
    go_wp2
    go_quiet (fail)
    go_wp2
    go_ret
    refine ⟨0, rfl, by omega, ?_, ?_, ?_⟩
    · exact only_drewN (World.grownBy.refl _ _) _
    · show _ = _; simp
    · exact ⟨A, len, c, zs, i, h1, h2, h3, hb.drewN _, hr.drewN _⟩

theorem Tryd.infoU8 : (Tryd.prog.info? 5).map (fun i => (i.zero, i.size, i.bytes)) = some (some (.int .u8 0), 1, 1) := by kernel_rfl

theorem bytesV_one (bs : List Int) : ∀ u ∈ bytesV bs, u.oneCell' = true := by
  intro u hu; simp only [bytesV, List.mem_map] at hu; obtain ⟨x, _, rfl⟩ := hu; rfl

/-- append of bytes onto a row of the call's own -/
theorem app_u8 {w : World} {ops : Array Oper} {rest : List Oper} {o : Oper} {a : Act} {Q : Exit → Act → World → Prop} (hgd : o.guard = none) (s x : Operand)
    (ho : o.op = .call { callee := .builtin .append, args := #[s, x], argTypes := #[38, 38] })
    (base : Nat) (v : Value) (n : Nat) (xs : List Int) (hs : a.eval s = v) (hown : w.ownsRow base 5 1 v n (bytesV xs))
    (B : Nat) (A : Option Addr) (m c : Nat) (ys : List Int) (hx : a.eval x = .slice A m c) (hr : Reads w B 1 A m (bytesV ys))
    (hbytes : n + m ≤ 1000000000) (hbase : base ≤ w.heap.size)
    (h : ∀ v' w', w'.ownsRow base 5 1 v' (n + m) (bytesV (xs ++ ys)) → w.grownBy w' v.ownBlock → (v'.ownBlock = v.ownBlock ∨ v'.ownBlock = some w.heap.size) → wpList Tryd.prog ops Q rest (a.put o.dst v') w') : wpList Tryd.prog ops Q (o :: rest) a w := by
  obtain ⟨i0, hi, hz0, hz1, hz2⟩ := info_parts Tryd.infoU8
  refine wpList_append_any w hgd s x 38 ho base 5 i0 (.int .u8 0) 1 1 Tryd.underlying38 hi hz0 hz1 hz2 rfl (by decide) v n (bytesV xs) hs hown B A m c (bytesV ys) hx hr (bytesV_one ys) (by unfold maxLen; omega) (by omega) hbase ?_
  intro v' w' h1 h2 h3
  exact h v' w' (by simpa [bytesV] using h1) h2 h3

theorem own_kept {w w' : World} {base e size n : Nat} {v : Value} {xs : List Value} {row : Option Nat} (h : w.ownsRow base e size v n xs) (hg : w.grownBy w' row) (hr : ∀ k, row = some k → k < base) : w'.ownsRow base e size v n xs :=
  h.kept hg (by
    rcases hv : v.ownBlock with _ | b
    · exact .inl rfl
    · refine .inr fun e => ?_
      have h1 := (h.lt b hv).1
      have h2 := hr b e.symm
      omega)

theorem IsB.append {xs ys : List Int} (h : IsB xs) (k : IsB ys) : IsB (xs ++ ys) := by
  intro y hy
  rcases List.mem_append.1 hy with h1 | h1
  · exact h y h1
  · exact k y h1
theorem IsB.one {x : Int} (hx : 0 ≤ x ∧ x ≤ 255) : IsB [x] := by
  intro z hz
  simp only [List.mem_cons, List.not_mem_nil, or_false] at hz
  exact hz ▸ hx

end Go.Proofs.YtopkbpigaengeaaDoor
