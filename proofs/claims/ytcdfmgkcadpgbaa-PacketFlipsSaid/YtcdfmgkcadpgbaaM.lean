/-
  The check sum of data between two addresses, as the program makes it: one region with five rows of bytes.
-/
import Derived.Test.YtcdfmgkcadpgbaaJ
import Derived.Test.YtcdfmgkcadpgbaaSep
namespace Go.Proofs.Ytcdfmgkcadpgbaa
open Go.RowKit

section
variable {P : Program} {a0 : Act} {SP : List OpSpec} {ds : List Tmp} {base : Nat} {W0 : World} {i : Nat} {o : Oper}
theorem StepS.mk (s0 : OpSpec) (hs0 : SP[i]? = some s0) (h : ∀ (r : Operand → Value) (w : World), Below base W0 w → base ≤ w.heap.size → (∀ v, r (.const v) = v) → (∀ f, r (.func f) = .func (.func f) #[] #[]) →
    (∀ t, ds.contains t = false → r (.tmp t) = a0.eval (.tmp t)) → KnownS SP ds base s0.eats r w o.after.toList →
    ∀ K : Value → World → Prop, (∀ x w', PostS ds base s0 r w x w' → K x w') → OpV P o r w K) : StepS P a0 SP ds base W0 i o := by
  intro r w s hs
  rw [hs0] at hs
  injection hs with hs
  subst hs
  exact h r w
theorem post_is {v : Value} {r : Operand → Value} {w : World} : PostS ds base (isV v) r w v w := ⟨Below.refl _ _, rfl, trivial⟩
theorem post_row {xs : List Int} {r : Operand → Value} {w w' : World} {x : Value} (h : Below w.heap.size w w') (hr : w'.ownsRow w.heap.size 5 1 x xs.length (bytesV xs)) : PostS ds base (rowV xs) r w x w' := ⟨h, RowAt.form hr, hr⟩
theorem post_eat {c : Nat} {t : Tmp} {xs : List Int} {r : Operand → Value} {w w' : World} {x : Value} (hc : ds[c]? = some t) (hg : w.grownBy w' (r (.tmp t)).ownBlock)
    (hb : x.ownBlock = (r (.tmp t)).ownBlock ∨ ∀ k, x.ownBlock = some k → w.heap.size ≤ k) (hr : w'.ownsRow base 5 1 x xs.length (bytesV xs)) : PostS ds base (eatV c xs) r w x w' := by
  unfold PostS
  simp only [eatV, hc]
  exact ⟨hg, RowAt.form hr, hb, hr⟩
/-- a row of constants and numbers that was just laid -/
theorem new_row_u8 (w : World) (xs : List Int) (n : Nat) (hn : xs.length = n) (hm : n ≤ 1000000) : (w.alloc (.cells (bytesV xs).toArray 5)).ownsRow w.heap.size 5 1 (.slice (some ⟨w.heap.size, 0, none⟩) n n) xs.length (bytesV xs) := by
  subst hn
  refine ⟨by simp [bytesV], .inr ⟨w.heap.size, xs.length, (bytesV xs).toArray, rfl, Nat.le_refl _, heap_alloc_new w _, Nat.le_refl _, by unfold maxLen; omega, by simp [bytesV], ?_⟩⟩
  rw [Nat.mul_one]
  exact List.take_of_length_le (by simp [bytesV])
theorem RowAt.reads {base : Nat} {w : World} {v : Value} {xs : List Int} (h : RowAt base w v xs) (n : Nat) (hn : xs.length = n) : ∃ A c, v = .slice A n c ∧ Reads w w.heap.size 1 A n (bytesV xs) := by
  subst hn
  obtain ⟨A, c, rfl⟩ := h.form
  exact ⟨A, c, rfl, Reads.of_own h⟩
end

set_option maxHeartbeats 1000000 in
theorem put2_any (base m : Nat) (v : Value) (xs : List Int) (k : Int) (w : World) (hown : w.ownsRow base 5 1 v m (bytesV xs)) (hm : m ≤ 1000000) (hb : base ≤ w.heap.size) (k0 : 0 ≤ k) (k1 : k < 4294967296) :
    Calls Try.prog 34 #[v, .int .i64 k] w fun e w' =>
      ∃ v', e = .returned v' ∧ w'.ownsRow base 5 1 v' (m + 2) (bytesV (xs ++ [k / 256 % 256, k % 256])) ∧ w.grownBy w' v.ownBlock ∧ (v'.ownBlock = v.ownBlock ∨ ∀ j, v'.ownBlock = some j → w.heap.size ≤ j) := by
  go_enter Try.func34, Try.ntmps34
  go_wp2_with (at_builtin; refine app_u8 rfl _ _ rfl base v m xs rfl (hown.alloc _) _ _ 2 2 [k / 256 % 256, k % 256] rfl (reads_new _ _ _ _ _ rfl) (by omega) (by simp; omega) ?_; intro v6 w6 hown6 hg6 hb6)
  go_ret
  refine ⟨_, rfl, hown6, (World.grownBy_alloc w _ _).trans hg6, ?_⟩
  rcases hb6 with h | h
  · exact .inl h
  · refine .inr fun j hj => ?_
    have hj' : v6.ownBlock = some j := hj
    rw [h] at hj'
    injection hj' with hj'
    subst hj'
    simp

/-- what each operation of Check's region leaves -/
def checkS (shi slo dhi dlo proto : Int) (A : Option Addr) (n c : Nat) : List OpSpec :=
  [isV (.agg #[.bool true, .int .u64 shi, .int .u64 slo]), rowV (addrB true shi slo), isV (.agg #[.bool true, .int .u64 dhi, .int .u64 dlo]), rowV (addrB true dhi dlo),
   isV (.int .i64 (n : Int)), isV (.int .i64 ((n : Int) / 65536)), rowV ([] ++ [(n : Int) / 65536 / 256 % 256, (n : Int) / 65536 % 256]), isV (.int .i64 (n : Int)),
   eatV 6 ([] ++ [(n : Int) / 65536 / 256 % 256, (n : Int) / 65536 % 256] ++ [(n : Int) / 256 % 256, (n : Int) % 256]),
   isV (.int .i64 proto), isV (.int .u8 (IntKind.u8.wrap proto)), rowV [0, 0, 0, IntKind.u8.wrap proto], isV (.slice A n c)]

set_option maxHeartbeats 4000000 in
theorem pcheck_any (shi slo dhi dlo proto : Int) (A : Option Addr) (n c : Nat) (bs : List Int) (w : World) (h1 : U64 shi) (h2 : U64 slo) (h3 : U64 dhi) (h4 : U64 dlo) (hn : n ≤ 100000) (hB : IsB bs)
    (hr : Reads w w.heap.size 1 A n (bytesV bs)) :
    Calls Try.prog 20 #[.agg #[.bool true, .int .u64 shi, .int .u64 slo], .agg #[.bool true, .int .u64 dhi, .int .u64 dlo], .int .i64 proto, .slice A n c] w fun e w' =>
      e = .returned (.int .u16 (sumL (checkD shi slo dhi dlo proto n bs))) ∧ Ext w w' := by
  have hB' := hB
  obtain ⟨cd, HC⟩ : ∃ cd, Hid (checkD shi slo dhi dlo proto n bs = cd) := ⟨_, rfl⟩
  rw [HC.out]
  go_enter Try.func20, Try.ntmps20
  go_wp2_with fail
  have hr0 : Reads ((w.alloc (.cells #[.bool true, .int .u64 shi, .int .u64 slo] 32)).alloc (.cells #[.bool true, .int .u64 dhi, .int .u64 dlo] 32)) (w.heap.size + 2) 1 A n (bytesV bs) := by
    have := (hr.extAlloc (.cells #[.bool true, .int .u64 shi, .int .u64 slo] 32)).extAlloc (.cells #[.bool true, .int .u64 dhi, .int .u64 dlo] 32)
    simpa using this
  have hE0 : Ext w ((w.alloc (.cells #[.bool true, .int .u64 shi, .int .u64 slo] 32)).alloc (.cells #[.bool true, .int .u64 dhi, .int .u64 dlo] 32)) := ((Ext.refl w).alloc _).alloc _
  have hB1 : Blk ((w.alloc (.cells #[.bool true, .int .u64 shi, .int .u64 slo] 32)).alloc (.cells #[.bool true, .int .u64 dhi, .int .u64 dlo] 32)) w.heap.size 32 #[.bool true, .int .u64 shi, .int .u64 slo] := (Blk.new _ _ _).alloc _
  have hB2 : Blk ((w.alloc (.cells #[.bool true, .int .u64 shi, .int .u64 slo] 32)).alloc (.cells #[.bool true, .int .u64 dhi, .int .u64 dlo] 32)) (w.heap.size + 1) 32 #[.bool true, .int .u64 dhi, .int .u64 dlo] := by
    have := Blk.new (w.alloc (.cells #[.bool true, .int .u64 shi, .int .u64 slo] 32)) 32 #[.bool true, .int .u64 dhi, .int .u64 dlo]
    simpa using this
  refine wp_region_rows (by kernel_rfl) 13 [12, 13, 14, 15, 16, 17, 18, 19, 20, 21, 22, 23, 24] rfl rfl (checkS shi slo dhi dlo proto A n c) rfl 28 (by kernel_rfl) (by decide) (by kernel_rfl) (by kernel_rfl) (by kernel_rfl) rfl (by kernel_rfl) (by kernel_rfl) (w.heap.size + 2) (by simp) ?_ ?_
  · intro x wq hB hb hA
    have r1 : RowAt (w.heap.size + 2) wq (x 1) (addrB true shi slo) := hA.2.1.2 rfl
    have r3 : RowAt (w.heap.size + 2) wq (x 3) (addrB true dhi dlo) := hA.2.2.2.1.2 rfl
    have r8 : RowAt (w.heap.size + 2) wq (x 8) ([] ++ [(n : Int) / 65536 / 256 % 256, (n : Int) / 65536 % 256] ++ [(n : Int) / 256 % 256, (n : Int) % 256]) := hA.2.2.2.2.2.2.2.2.1.2 rfl
    have r11 : RowAt (w.heap.size + 2) wq (x 11) [0, 0, 0, IntKind.u8.wrap proto] := hA.2.2.2.2.2.2.2.2.2.2.2.1.2 rfl
    have e12 : x 12 = .slice A n c := hA.2.2.2.2.2.2.2.2.2.2.2.2.1.1
    obtain ⟨A1, c1, e1, q1⟩ := r1.reads 16 (by simp [addrB_len])
    obtain ⟨A3, c3, e3, q3⟩ := r3.reads 16 (by simp [addrB_len])
    obtain ⟨A8, c8, e8, q8⟩ := r8.reads 4 rfl
    obtain ⟨A11, c11, e11, q11⟩ := r11.reads 4 rfl
    have hxw : Ext w wq := hE0.trans (hB.mono (by simp))
    clear hA r1 r3 r8 r11 hB1 hB2 hE0 hr0
    simp only [List.map_cons, List.map_nil, fillL, Nat.zero_add, Nat.reduceAdd, Act.put, List.setIfInBounds_toArray, List.set_cons_succ, List.set_cons_zero, List.drop_succ_cons, List.drop_zero, e1, e3, e8, e11, e12]
    clear e1 e3 e8 e11 e12
    have hI := bounds_u8 (wf_wrap .u8 proto)
    have iQ : IsB ([] ++ [(n : Int) / 65536 / 256 % 256, (n : Int) / 65536 % 256] ++ [(n : Int) / 256 % 256, (n : Int) % 256]) := (IsB.append (fun x hx => by cases hx) (IsB.list2 (by omega) (by omega))).append (IsB.list2 (by omega) (by omega))
    have i4 : IsB [0, 0, 0, IntKind.u8.wrap proto] := (IsB.list2 (by omega) (by omega)).append (IsB.list2 (by omega) hI)
    have hJ := join_check wq wq.heap.size rfl A1 A3 A8 A11 A 16 16 4 4 n c1 c3 c8 c11 c _ _ _ _ bs q1 q3 q8 q11 (hr.ext hxw) (beN_isB _ _) (beN_isB _ _) iQ i4 hB' (by omega)
    rw [checkD_eq shi slo dhi dlo proto n bs hn] at hJ
    have HJ := Lib.hid hJ
    have HB := Lib.hid (checkD_isB shi slo dhi dlo proto n bs hn hB')
    clear hJ iQ i4 hI q1 q3 q8 q11
    rw [HC.out] at HJ HB
    go_wp2_with fail
    refine HJ.out.mono ?_
    rintro e wJ ⟨AJ, cJ, rfl, hrJ, hxJ⟩
    go_wp2_with fail
    refine (sum_any _ _ _ _ cd _ (by omega) HB.out hrJ).mono ?_
    rintro e w9 ⟨rfl, rfl⟩
    go_wp2_with fail
    go_ret
    exact ⟨rfl, hxw.trans hxJ⟩
  · refine EachOp.cons ?_ (EachOp.cons ?_ (EachOp.cons ?_ (EachOp.cons ?_ (EachOp.cons ?_ (EachOp.cons ?_ (EachOp.cons ?_ (EachOp.cons ?_ (EachOp.cons ?_ (EachOp.cons ?_ (EachOp.cons ?_ (EachOp.cons ?_ (EachOp.cons ?_ EachOp.nil))))))))))))
    all_goals (refine StepS.mk _ rfl fun r wq hB hb hc hf ho hk K hK => ?_)
    · have h0 : r (.tmp 4) = .pointer (some ⟨w.heap.size, 0, none⟩) := ho 4 rfl
      have hq := hB1.below hB (by omega)
      have k0 : wq.cell? ⟨w.heap.size, 0, none⟩ = some (.bool true) := hq.cell 0
      have k1 : wq.cell? ⟨w.heap.size, 1, none⟩ = some (.int .u64 shi) := hq.cell 1
      have k2 : wq.cell? ⟨w.heap.size, 2, none⟩ = some (.int .u64 slo) := hq.cell 2
      unfold OpV; go_simp; exact hK _ _ post_is
    · have e : r (.tmp 12) = .agg #[.bool true, .int .u64 shi, .int .u64 slo] := hk.1.1
      unfold OpV; go_simp
      refine (abytes_six _ _ _ rfl h1 h2).mono ?_
      rintro e w2 ⟨g, rfl, hown, hb2⟩
      exact ⟨_, rfl, hK _ _ (post_row hb2 (by rw [addrB_len]; exact hown))⟩
    · have h0 : r (.tmp 5) = .pointer (some ⟨w.heap.size + 1, 0, none⟩) := ho 5 rfl
      have hq := hB2.below hB (by omega)
      have k0 : wq.cell? ⟨w.heap.size + 1, 0, none⟩ = some (.bool true) := hq.cell 0
      have k1 : wq.cell? ⟨w.heap.size + 1, 1, none⟩ = some (.int .u64 dhi) := hq.cell 1
      have k2 : wq.cell? ⟨w.heap.size + 1, 2, none⟩ = some (.int .u64 dlo) := hq.cell 2
      unfold OpV; go_simp; exact hK _ _ post_is
    · have e : r (.tmp 14) = .agg #[.bool true, .int .u64 dhi, .int .u64 dlo] := hk.1.1
      unfold OpV; go_simp
      refine (abytes_six _ _ _ rfl h3 h4).mono ?_
      rintro e w2 ⟨g, rfl, hown, hb2⟩
      exact ⟨_, rfl, hK _ _ (post_row hb2 (by rw [addrB_len]; exact hown))⟩
    · have h0 : r (.tmp 9) = .int .i64 (n : Int) := ho 9 rfl
      unfold OpV; go_simp; exact hK _ _ post_is
    · have e : r (.tmp 16) = .int .i64 (n : Int) := hk.1.1
      unfold OpV; go_simp; exact hK _ _ post_is
    · have e : r (.tmp 17) = .int .i64 ((n : Int) / 65536) := hk.1.1
      unfold OpV; go_simp
      refine (put2_any wq.heap.size 0 (.slice none 0 0) [] ((n : Int) / 65536) wq (World.ownsRow_nil _ _ _ _) (by omega) (Nat.le_refl _) (by omega) (by omega)).mono ?_
      rintro e w2 ⟨v, rfl, hown, hg, hbk⟩
      exact ⟨_, rfl, hK _ _ (post_row ((Below.refl _ _).grown hg (Nat.le_refl _) (by intro k hk; cases hk)) hown)⟩
    · have h0 : r (.tmp 9) = .int .i64 (n : Int) := ho 9 rfl
      unfold OpV; go_simp; exact hK _ _ post_is
    · have e : r (.tmp 19) = .int .i64 (n : Int) := hk.2.1.1
      have hrow : RowAt (w.heap.size + 2) wq (r (.tmp 18)) ([] ++ [(n : Int) / 65536 / 256 % 256, (n : Int) / 65536 % 256]) := hk.1.2 rfl
      obtain ⟨v, hv⟩ : ∃ v, r (.tmp 18) = v := ⟨_, rfl⟩
      have hv' := hv
      rw [hv] at hrow
      unfold OpV; go_simp
      refine (put2_any (w.heap.size + 2) _ v _ (n : Int) wq hrow (by simp) hb (by omega) (by omega)).mono ?_
      rintro e w2 ⟨v2, rfl, hown, hg, hbk⟩
      exact ⟨_, rfl, hK _ _ (post_eat (t := 18) rfl (by rw [hv']; exact hg) (by rw [hv']; exact hbk) hown)⟩
    · have h0 : r (.tmp 2) = .int .i64 proto := ho 2 rfl
      unfold OpV; go_simp; exact hK _ _ post_is
    · have e : r (.tmp 21) = .int .i64 proto := hk.1.1
      unfold OpV; go_simp; exact hK _ _ post_is
    · have e : r (.tmp 22) = .int .u8 (IntKind.u8.wrap proto) := hk.1.1
      unfold OpV; go_simp
      exact hK _ _ (post_row ((Below.refl _ _).alloc (Nat.le_refl _) _) (new_row_u8 wq [0, 0, 0, IntKind.u8.wrap proto] 4 rfl (by omega)))
    · have h0 : r (.tmp 3) = .slice A n c := ho 3 rfl
      unfold OpV; go_simp; exact hK _ _ post_is

end Go.Proofs.Ytcdfmgkcadpgbaa
