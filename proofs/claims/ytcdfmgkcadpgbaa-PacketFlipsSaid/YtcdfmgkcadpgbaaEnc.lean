/-
  The bytes of a packet, as the program makes them.
-/
import Derived.Test.YtcdfmgkcadpgbaaM
import Derived.Test.YtcdfmgkcadpgbaaV
import Derived.Laws.CopyOwn
namespace Go.Proofs.Ytcdfmgkcadpgbaa
open Go.RowKit

/-- the bytes of a packet with V6 -/
def enc6 (s d : Ad) (p t : Int) (n : Nat) (bs : List Int) : List Int := [96, 0, 0, 0, (n : Int) / 256 % 256, (n : Int) % 256, p, t] ++ (addrB s.v6 s.hi s.lo ++ addrB d.v6 d.hi d.lo) ++ bs
/-- the header of a packet without V6, its sum still 0 -/
def head4 (s d : Ad) (p t : Int) (n : Nat) : List Int := [69, 0, (20 + (n : Int)) / 256 % 256, (20 + (n : Int)) % 256, 0, 0, 64, 0, t, p, 0, 0] ++ (addrB s.v6 s.hi s.lo ++ addrB d.v6 d.hi d.lo)
def setSum (h : List Int) : List Int := splice h 10 [sumL h / 256 % 256, sumL h % 256]
def encP (s d : Ad) (p t : Int) (n : Nat) (bs : List Int) : List Int := if s.v6 then enc6 s d p t n bs else setSum (head4 s d p t n) ++ bs

theorem abytes_any (v6 : Bool) (hi lo : Int) (w : World) (hv : validA v6 hi lo = true) (h0 : U64 hi) (l0 : U64 lo) :
    Calls Try.prog 33 #[.agg #[.bool v6, .int .u64 hi, .int .u64 lo]] w fun e w' => ∃ v, e = .returned v ∧ w'.ownsRow w.heap.size 5 1 v (addrB v6 hi lo).length (bytesV (addrB v6 hi lo)) ∧ Below w.heap.size w w' := by
  cases v6
  · refine (abytes_four hi lo w hv h0 l0).mono ?_
    rintro e w' ⟨g, rfl, h1, h2⟩
    exact ⟨_, rfl, by rw [addrB_len]; exact h1, h2⟩
  · refine (abytes_six hi lo w hv h0 l0).mono ?_
    rintro e w' ⟨g, rfl, h1, h2⟩
    exact ⟨_, rfl, by rw [addrB_len]; exact h1, h2⟩

def U8 (x : Int) : Prop := 0 ≤ x ∧ x ≤ 255
theorem wrap8 {x : Int} (h : 0 ≤ x ∧ x ≤ 255) : IntKind.u8.wrap x = x := by rw [IntKind.wrap_u8']; omega

/-- an append of the call's own rows inside a drawn region -/
theorem opv_append {o : Oper} {r : Operand → Value} {w : World} {K : Value → World → Prop} (s x : Operand) (ho : o.op = .call { callee := .builtin .append, args := #[s, x], argTypes := #[22, 22] })
    (base : Nat) (xs ys : List Int) (hown : RowAt base w (r s) xs) (B : Nat) (A : Option Addr) (m c : Nat) (hx : r x = .slice A m c) (hr : Reads w B 1 A m (bytesV ys)) (hbytes : xs.length + m ≤ 1000000) (hbase : base ≤ w.heap.size)
    (h : ∀ v' w', w'.ownsRow base 5 1 v' (xs ++ ys).length (bytesV (xs ++ ys)) → w.grownBy w' (r s).ownBlock → (v'.ownBlock = (r s).ownBlock ∨ ∀ k, v'.ownBlock = some k → w.heap.size ≤ k) → K v' w') : OpV Try.prog o r w K := by
  obtain ⟨i0, hi, hz0, hz1, hz2⟩ := info_parts Try.infoU8
  obtain ⟨v', w', hrun, h2, h3, h4⟩ := run_append_any (P := Try.prog) w base 22 o.type 5 i0 (.int .u8 0) 1 1 Try.underlying22 hi hz0 hz1 hz2 rfl (by decide) (r s) xs.length (bytesV xs) hown B A m c (bytesV ys) hr (bytesV_one ys) (by unfold maxLen; omega) (by omega) hbase
  have hm : m = ys.length := by have := hr.1; rw [bytesV_len] at this; omega
  subst hm
  unfold OpV execOp
  simp only [ho, resolve, invoke, builtin, Sem.run_bind, Sem.run_pure, Result.andThen_ok, List.map_toArray, List.map_cons, List.map_nil, hx, hrun]
  refine h v' w' (by rw [List.length_append]; simpa [bytesV] using h2) h3 ?_
  rcases h4 with h4 | h4
  · exact .inl h4
  · refine .inr fun k hk => ?_
    rw [h4] at hk
    injection hk with hk
    exact Nat.le_of_eq hk

set_option maxRecDepth 100000 in
set_option maxHeartbeats 1000000 in
theorem enc_bad (s d : Ad) (p t : Int) (A : Option Addr) (n c : Nat) (w : World) (hv : validP s d p t n = false) :
    Calls Try.prog 23 #[pkV s d p t (.slice A n c)] w fun e w' => e = .returned (.tuple #[.slice none 0 0, .int .i64 1]) ∧ Ext w w' := by
  unfold pkV
  go_enter Try.func23, Try.ntmps23
  go_wp2_with fail
  refine (pvalid_any s d p t A n c _).mono ?_
  rintro e w' ⟨rfl, hE⟩
  rw [hv]
  go_wp2_with fail
  go_ret2
  exact ⟨rfl, ((Ext.refl w).alloc _).trans hE⟩

/-- the operations of the region that joins both addresses -/
def endsS (k : Nat) (s d : Ad) : List OpSpec :=
  [isV (.pointer (some ⟨k, 0, none⟩)), isV (.agg #[.bool s.v6, .int .u64 s.hi, .int .u64 s.lo]), rowV (addrB s.v6 s.hi s.lo),
   isV (.pointer (some ⟨k, 3, none⟩)), isV (.agg #[.bool d.v6, .int .u64 d.hi, .int .u64 d.lo]), rowV (addrB d.v6 d.hi d.lo), eatV 2 (addrB s.v6 s.hi s.lo ++ addrB d.v6 d.hi d.lo)]

theorem own_open {w : World} {base : Nat} {v : Value} {n : Nat} {xs : List Int} (h : w.ownsRow base 5 1 v n (bytesV xs)) (hn : 0 < n) :
    ∃ (g cap : Nat) (cur : Array Value), v = .slice (some ⟨g, 0, none⟩) n cap ∧ base ≤ g ∧ w.heap[g]? = some (.cells cur 5 (0, 0)) ∧ n ≤ cap ∧ cap ≤ maxLen ∧ cur.size = cap ∧ cur.toList.take n = bytesV xs := by
  rcases h.2 with ⟨_, e⟩ | ⟨g, cap, cur, h1, h2, h3, h4, h5, h6, h7⟩
  · omega
  · exact ⟨g, cap, cur, h1, h2, h3, h4, h5, by omega, by simpa using h7⟩
theorem own_sum {w : World} {base g cap : Nat} {cur : Array Value} {h : List Int} {a b : Int} (hc : w.heap[g]? = some (.cells (splice cur.toList 10 (bytesV [a, b])).toArray 5 (0, 0))) (hcap : 20 ≤ cap) (hm : cap ≤ maxLen) (hsz : cur.size = cap)
    (hx : cur.toList.take 20 = bytesV h) (hb : base ≤ g) : w.ownsRow base 5 1 (.slice (some ⟨g, 0, none⟩) 20 cap) 20 (bytesV (splice h 10 [a, b])) := by
  have hl : h.length = 20 := by
    have := congrArg List.length hx
    simp [bytesV] at this
    omega
  have hcl : cur.toList.length = cap := by simpa using hsz
  have e : bytesV (splice h 10 [a, b]) = splice (bytesV h) 10 (bytesV [a, b]) := by simp [splice, bytesV, List.map_take, List.map_drop]
  refine ⟨by rw [bytesV_len, length_splice _ _ _ (by simp; omega)]; omega, .inr ⟨g, cap, _, rfl, hb, hc, hcap, hm, ?_, ?_⟩⟩
  · have := length_splice cur.toList 10 (bytesV [a, b]) (by simp [bytesV]; omega)
    simp only [List.size_toArray, Nat.mul_one]
    omega
  · rw [e, ← hx]
    simp only [splice, Nat.mul_one, List.take_append, List.length_take, List.take_take, List.drop_take, bytesV, List.map_cons, List.map_nil, List.length_cons, List.length_nil]
    have h10 : min 10 cur.size = 10 := by omega
    simp [h10]
theorem head4_isB (s d : Ad) {p t : Int} {n : Nat} (hp : 0 ≤ p ∧ p ≤ 255) (ht : 0 ≤ t ∧ t ≤ 255) (hn : n ≤ 1480) : IsB (head4 s d p t n) := by
  unfold head4
  refine IsB.append ?_ ((beN_isB _ _).append (beN_isB _ _))
  intro x hx
  simp only [List.mem_cons, List.not_mem_nil, or_false] at hx
  rcases hx with rfl | rfl | rfl | rfl | rfl | rfl | rfl | rfl | rfl | rfl | rfl | rfl <;> omega
/-- the operations of the region that lays the sum into the header -/
def sumS (g cap : Nat) (S : Int) : List OpSpec :=
  [isV (.slice (some ⟨g, 0, none⟩) 20 cap), isV (.slice (some ⟨g, 10, none⟩) 10 (cap - 10)), isV (.slice (some ⟨g, 0, none⟩) 20 cap), isV (.int .u16 S), isV (.int .i64 S), rowV ([] ++ [S / 256 % 256, S % 256])]
def four12 (p t : Int) (n : Nat) : List Int := [69, 0] ++ [(20 + (n : Int)) / 256 % 256, (20 + (n : Int)) % 256] ++ [0, 0, 64, 0, t, p, 0, 0]
/-- the operations of the region that makes the first twelve bytes without V6 -/
def fourS (k : Nat) (p t : Int) (A : Option Addr) (n c : Nat) : List OpSpec :=
  [rowV [69, 0], isV (.pointer (some ⟨k, 8, none⟩)), isV (.slice A n c), isV (.int .i64 (n : Int)), isV (.int .i64 (20 + (n : Int))), eatV 0 ([69, 0] ++ [(20 + (n : Int)) / 256 % 256, (20 + (n : Int)) % 256]),
   isV (.pointer (some ⟨k, 7, none⟩)), isV (.int .i64 t), isV (.int .u8 t), isV (.pointer (some ⟨k, 6, none⟩)), isV (.int .i64 p), isV (.int .u8 p), rowV [0, 0, 64, 0, t, p, 0, 0], eatV 5 (four12 p t n)]
def six8 (p t : Int) (n : Nat) : List Int := [96, 0, 0, 0] ++ [(n : Int) / 256 % 256, (n : Int) % 256] ++ [p, t]
/-- the operations of the region that makes the first eight bytes with V6 -/
def sixS (k : Nat) (p t : Int) (A : Option Addr) (n c : Nat) : List OpSpec :=
  [rowV [96, 0, 0, 0], isV (.pointer (some ⟨k, 8, none⟩)), isV (.slice A n c), isV (.int .i64 (n : Int)), eatV 0 ([96, 0, 0, 0] ++ [(n : Int) / 256 % 256, (n : Int) % 256]),
   isV (.pointer (some ⟨k, 6, none⟩)), isV (.int .i64 p), isV (.int .u8 p), isV (.pointer (some ⟨k, 7, none⟩)), isV (.int .i64 t), isV (.int .u8 t), rowV [p, t], eatV 4 (six8 p t n)]

set_option maxRecDepth 100000 in
set_option maxHeartbeats 4000000 in
theorem enc_ok (s d : Ad) (p t : Int) (bs : List Int) (v : Value) (w : World) (hv : validP s d p t bs.length = true) (hP : PData w v bs) (hB : IsB bs) (hs1 : U64 s.hi) (hs2 : U64 s.lo) (hd1 : U64 d.hi) (hd2 : U64 d.lo) (hl : bs.length ≤ 1480)
    (va : validA s.v6 s.hi s.lo = true) (vb : validA d.v6 d.hi d.lo = true) (hvv : s.v6 = d.v6) (hp : 0 ≤ p ∧ p ≤ 255) (ht : 0 ≤ t ∧ t ≤ 255) :
    Calls Try.prog 23 #[pkV s d p t v] w fun e w' => ∃ v', e = .returned (.tuple #[v', .int .i64 0]) ∧ w'.ownsRow w.heap.size 5 1 v' (encP s d p t bs.length bs).length (bytesV (encP s d p t bs.length bs)) ∧ Ext w w' := by
  obtain ⟨A, c, rfl, hr⟩ := id hP
  have HV := Lib.hid hvv
  clear hvv
  have hfin : Hid (encP s d p t bs.length bs = if s.v6 then enc6 s d p t bs.length bs else setSum (head4 s d p t bs.length) ++ bs) := rfl
  have hE0 : Ext w (w.alloc (.cells (pkC s d p t (.slice A bs.length c)) 34)) := (Ext.refl w).alloc _
  have hB0 : Blk (w.alloc (.cells (pkC s d p t (.slice A bs.length c)) 34)) w.heap.size 34 (pkC s d p t (.slice A bs.length c)) := Blk.new _ _ _
  unfold pkV
  go_enter Try.func23, Try.ntmps23
  go_wp2_with fail
  refine (pvalid_any s d p t A bs.length c _).mono ?_
  rintro e w1 ⟨rfl, hE1⟩
  rw [hv]
  have hE := hE0.trans hE1
  replace hB0 := hB0.below hE1 (by simp)
  have hBl := hB0.lt
  clear hE0 hE1 hv
  have hr1 := hr.ext hE
  go_wp2_with fail
  go_cut [4] (fun v4 wx => RowAt w1.heap.size wx v4 (addrB s.v6 s.hi s.lo ++ addrB d.v6 d.hi d.lo) ∧ Ext w1 wx)
  case first =>
    refine wp_region_rows (by kernel_rfl) 7 [10, 11, 12, 13, 14, 15, 16] rfl rfl (endsS w.heap.size s d) rfl 67 (by kernel_rfl) (by decide) (by kernel_rfl) (by kernel_rfl) (by kernel_rfl) rfl (by kernel_rfl) (by kernel_rfl) w1.heap.size (Nat.le_refl _) ?_ ?_
    · intro x wq hBq hb hA
      have r6 : RowAt w1.heap.size wq (x 6) (addrB s.v6 s.hi s.lo ++ addrB d.v6 d.hi d.lo) := hA.2.2.2.2.2.2.1.2 rfl
      simp only [List.map_cons, List.map_nil, fillL, Nat.zero_add, Nat.reduceAdd, Act.put, List.setIfInBounds_toArray, List.set_cons_succ, List.set_cons_zero, List.drop_succ_cons, List.drop_zero]
      clear hA
      go_wp2_with fail
      go_meet
      exact ⟨r6, hBq⟩
    · refine EachOp.cons ?_ (EachOp.cons ?_ (EachOp.cons ?_ (EachOp.cons ?_ (EachOp.cons ?_ (EachOp.cons ?_ (EachOp.cons ?_ EachOp.nil))))))
      all_goals (refine StepS.mk _ rfl fun r wq hBq hb hc hf ho hk K hK => ?_)
      · have h0 : r (.tmp 1) = .pointer (some ⟨w.heap.size, 0, none⟩) := ho 1 rfl
        unfold OpV; go_simp; exact hK _ _ post_is
      · have h0 : r (.tmp 10) = .pointer (some ⟨w.heap.size, 0, none⟩) := hk.1.1
        obtain ⟨a0, a1, a2, a3, a4, a5, a6, a7, a8, af⟩ := pk_cells (hB0.below hBq hBl)
        unfold OpV; go_simp; exact hK _ _ post_is
      · have h0 : r (.tmp 11) = .agg #[.bool s.v6, .int .u64 s.hi, .int .u64 s.lo] := hk.1.1
        unfold OpV; go_simp
        refine (abytes_any _ _ _ _ va hs1 hs2).mono ?_
        rintro e w2 ⟨v2, rfl, hown, hb2⟩
        exact ⟨_, rfl, hK _ _ (post_row hb2 hown)⟩
      · have h0 : r (.tmp 1) = .pointer (some ⟨w.heap.size, 0, none⟩) := ho 1 rfl
        unfold OpV; go_simp; exact hK _ _ post_is
      · have h0 : r (.tmp 13) = .pointer (some ⟨w.heap.size, 3, none⟩) := hk.1.1
        obtain ⟨a0, a1, a2, a3, a4, a5, a6, a7, a8, af⟩ := pk_cells (hB0.below hBq hBl)
        unfold OpV; go_simp; exact hK _ _ post_is
      · have h0 : r (.tmp 14) = .agg #[.bool d.v6, .int .u64 d.hi, .int .u64 d.lo] := hk.1.1
        unfold OpV; go_simp
        refine (abytes_any _ _ _ _ vb hd1 hd2).mono ?_
        rintro e w2 ⟨v2, rfl, hown, hb2⟩
        exact ⟨_, rfl, hK _ _ (post_row hb2 hown)⟩
      · have hrow : RowAt w1.heap.size wq (r (.tmp 12)) (addrB s.v6 s.hi s.lo) := hk.1.2 rfl
        have hsrc : RowAt w1.heap.size wq (r (.tmp 15)) (addrB d.v6 d.hi d.lo) := hk.2.1.2 rfl
        obtain ⟨A2, c2, e2, q2⟩ := hsrc.reads _ rfl
        exact opv_append (.tmp 12) (.tmp 15) rfl w1.heap.size _ _ hrow _ A2 _ c2 e2 q2 (by simp only [addrB_len]; split <;> split <;> omega) hb fun v' w' h1 h2 h3 => hK _ _ (post_eat (t := 12) rfl h2 h3 h1)
  case rest =>
    obtain ⟨hends, hx⟩ := hcut
    replace hB0 := hB0.below hx hBl
    have hBc := hB0.lt
    have hEc := hE.trans hx
    have hrc : Reads wc w.heap.size 1 A bs.length (bytesV bs) := hr.below hEc
    have hEl := hE.size
    have hxl := hx.size
    clear hr1 hr hP hx hE hBl
    obtain ⟨wo, rfl⟩ : ∃ wo : World, wo = wc := ⟨_, rfl⟩
    obtain ⟨sv, shi, slo⟩ := s
    cases sv
    · obtain ⟨a0, a1, a2, a3, a4, a5, a6, a7, a8, af⟩ := pk_cells hB0
      go_wp2_with fail
      go_cut [6] (fun v6 wx => RowAt wo.heap.size wx v6 (four12 p t bs.length) ∧ Ext wo wx)
      case first =>
        refine wp_region_rows (by kernel_rfl) 14 [39, 40, 41, 42, 43, 44, 45, 46, 47, 48, 49, 50, 51, 52] rfl rfl (fourS w.heap.size p t A bs.length c) rfl 67 (by kernel_rfl) (by decide) (by kernel_rfl) (by kernel_rfl) (by kernel_rfl) rfl (by kernel_rfl) (by kernel_rfl) wo.heap.size (Nat.le_refl _) ?_ ?_
        · intro x wq hBq hb hA
          have r13 : RowAt wo.heap.size wq (x 13) (four12 p t bs.length) := hA.2.2.2.2.2.2.2.2.2.2.2.2.2.1.2 rfl
          simp only [List.map_cons, List.map_nil, fillL, Nat.zero_add, Nat.reduceAdd, Act.put, List.setIfInBounds_toArray, List.set_cons_succ, List.set_cons_zero, List.drop_succ_cons, List.drop_zero]
          clear hA
          go_wp2_with fail
          go_meet
          exact ⟨r13, hBq⟩
        · clear a0 a1 a2 a3 a4 a5 a6 a7 a8 af
          refine EachOp.cons ?_ (EachOp.cons ?_ (EachOp.cons ?_ (EachOp.cons ?_ (EachOp.cons ?_ (EachOp.cons ?_ (EachOp.cons ?_ (EachOp.cons ?_ (EachOp.cons ?_ (EachOp.cons ?_ (EachOp.cons ?_ (EachOp.cons ?_ (EachOp.cons ?_ (EachOp.cons ?_ EachOp.nil)))))))))))))
          all_goals (refine StepS.mk _ rfl fun r wq hBq hb hc hf ho hk K hK => ?_)
          · unfold OpV; go_simp
            exact hK _ _ (post_row ((Below.refl _ _).alloc (Nat.le_refl _) _) (new_row_u8 wq [69, 0] 2 rfl (by omega)))
          · have h0 : r (.tmp 1) = .pointer (some ⟨w.heap.size, 0, none⟩) := ho 1 rfl
            unfold OpV; go_simp; exact hK _ _ post_is
          · have h0 : r (.tmp 40) = .pointer (some ⟨w.heap.size, 8, none⟩) := hk.1.1
            obtain ⟨a0, a1, a2, a3, a4, a5, a6, a7, a8, af⟩ := pk_cells (hB0.below hBq hBc)
            unfold OpV; go_simp; exact hK _ _ post_is
          · have h0 : r (.tmp 41) = .slice A bs.length c := hk.1.1
            unfold OpV; go_simp; exact hK _ _ post_is
          · have h0 : r (.tmp 42) = .int .i64 (bs.length : Int) := hk.1.1
            unfold OpV; go_simp; rw [IntWalk.i64_in _ (by omega)]; exact hK _ _ post_is
          · have e : r (.tmp 43) = .int .i64 (20 + (bs.length : Int)) := hk.2.1.1
            have hrow : RowAt wo.heap.size wq (r (.tmp 39)) [69, 0] := hk.1.2 rfl
            obtain ⟨v, hv⟩ : ∃ v, r (.tmp 39) = v := ⟨_, rfl⟩
            have hv' := hv
            rw [hv] at hrow
            unfold OpV; go_simp
            refine (put2_any wo.heap.size _ v _ (20 + (bs.length : Int)) wq hrow (by simp) hb (by omega) (by omega)).mono ?_
            rintro e w2 ⟨v2, rfl, hown, hg, hbk⟩
            exact ⟨_, rfl, hK _ _ (post_eat (t := 39) rfl (by rw [hv']; exact hg) (by rw [hv']; exact hbk) hown)⟩
          · have h0 : r (.tmp 1) = .pointer (some ⟨w.heap.size, 0, none⟩) := ho 1 rfl
            unfold OpV; go_simp; exact hK _ _ post_is
          · have h0 : r (.tmp 45) = .pointer (some ⟨w.heap.size, 7, none⟩) := hk.1.1
            obtain ⟨a0, a1, a2, a3, a4, a5, a6, a7, a8, af⟩ := pk_cells (hB0.below hBq hBc)
            unfold OpV; go_simp; exact hK _ _ post_is
          · have h0 : r (.tmp 46) = .int .i64 t := hk.1.1
            unfold OpV; go_simp; (try rw [wrap8 ht]); exact hK _ _ post_is
          · have h0 : r (.tmp 1) = .pointer (some ⟨w.heap.size, 0, none⟩) := ho 1 rfl
            unfold OpV; go_simp; exact hK _ _ post_is
          · have h0 : r (.tmp 48) = .pointer (some ⟨w.heap.size, 6, none⟩) := hk.1.1
            obtain ⟨a0, a1, a2, a3, a4, a5, a6, a7, a8, af⟩ := pk_cells (hB0.below hBq hBc)
            unfold OpV; go_simp; exact hK _ _ post_is
          · have h0 : r (.tmp 49) = .int .i64 p := hk.1.1
            unfold OpV; go_simp; (try rw [wrap8 hp]); exact hK _ _ post_is
          · have h0 : r (.tmp 47) = .int .u8 t := hk.1.1
            have h2 : r (.tmp 50) = .int .u8 p := hk.2.1.1
            unfold OpV; go_simp
            exact hK _ _ (post_row ((Below.refl _ _).alloc (Nat.le_refl _) _) (new_row_u8 wq [0, 0, 64, 0, t, p, 0, 0] 8 rfl (by omega)))
          · have hrow : RowAt wo.heap.size wq (r (.tmp 44)) ([69, 0] ++ [(20 + (bs.length : Int)) / 256 % 256, (20 + (bs.length : Int)) % 256]) := hk.1.2 rfl
            have hsrc : RowAt wo.heap.size wq (r (.tmp 51)) [0, 0, 64, 0, t, p, 0, 0] := hk.2.1.2 rfl
            obtain ⟨A2, c2, e2, q2⟩ := hsrc.reads 8 rfl
            exact opv_append (.tmp 44) (.tmp 51) rfl wo.heap.size _ _ hrow _ A2 _ c2 e2 q2 (by simp) hb fun v' w' h1 h2 h3 => hK _ _ (post_eat (t := 44) rfl h2 h3 h1)
      case rest =>
        obtain ⟨h6, hx6⟩ := hcut
        clear a0 a1 a2 a3 a4 a5 a6 a7 a8 af
        replace hB0 := hB0.below hx6 hBc
        have he4 : RowAt w1.heap.size wc u4 (addrB false shi slo ++ addrB d.v6 d.hi d.lo) := own_ext hends hx6
        have hdv : d.v6 = false := HV.out.symm
        have hL : (addrB false shi slo ++ addrB d.v6 d.hi d.lo).length = 8 := by rw [List.length_append, addrB_len, addrB_len, hdv]; rfl
        obtain ⟨A4, c4, rfl, q4⟩ := he4.reads 8 hL
        obtain ⟨A6, c6, rfl, _⟩ := h6.reads 12 rfl
        have hEc2 := hEc.trans hx6
        have hrd : Reads wc w.heap.size 1 A bs.length (bytesV bs) := hrc.below (hx6.mono (by omega))
        have hwl : wo.heap.size ≤ wc.heap.size := hx6.size
        have h6o : wc.ownsRow wo.heap.size 5 1 (.slice A6 12 c6) 12 (bytesV (four12 p t bs.length)) := h6
        have HL := Lib.hid hL
        clear he4 hends hx6 hdv hL h6
        obtain ⟨wp, rfl⟩ : ∃ wp : World, wp = wc := ⟨_, rfl⟩
        go_upto_region 8 with fail
        go_cut [6] (fun v6 wx => wx.ownsRow wo.heap.size 5 1 v6 20 (bytesV (head4 ⟨false, shi, slo⟩ d p t bs.length)) ∧ Below wo.heap.size wp wx)
        case first =>
          go_wp2_with (at_builtin; refine app_u8 rfl _ _ rfl wo.heap.size (.slice A6 12 c6) 12 (four12 p t bs.length) rfl h6o _ A4 8 c4 (addrB false shi slo ++ addrB d.v6 d.hi d.lo) rfl q4 (by omega) hwl ?_; intro v7 w7 hown7 hg7 hb7)
          go_meet
          exact ⟨hown7, (Below.refl _ _).grown hg7 hwl (fun g e => (h6o.lt g e).1)⟩
        case rest =>
          obtain ⟨hown, hbw⟩ := hcut
          replace hB0 := hB0.below hbw hBc
          replace hrd := hrd.below (hbw.mono (Nat.le_of_lt hBc))
          have hEf : Ext w wc := Below.trans hEc2 (hbw.mono (Nat.le_of_lt hBc))
          have hwl2 : wo.heap.size ≤ wc.heap.size := Nat.le_trans hwl hbw.size
          have hHB : IsB (head4 ⟨false, shi, slo⟩ d p t bs.length) := head4_isB _ _ hp ht (by omega)
          clear hbw hEc2 q4 h6o hwl
          obtain ⟨wr, rfl⟩ : ∃ wr : World, wr = wc := ⟨_, rfl⟩
          obtain ⟨g, cap, cur, rfl, hgb, hcc, hcap, hcm, hcs, htake⟩ := own_open hown (by omega)
          have henc : encP ⟨false, shi, slo⟩ d p t bs.length bs = setSum (head4 ⟨false, shi, slo⟩ d p t bs.length) ++ bs := rfl
          have HN := Lib.hid henc
          clear henc hfin
          have hS := sumL_bd hHB
          unfold setSum at HN
          generalize head4 ⟨false, shi, slo⟩ d p t bs.length = H at *
          obtain ⟨S, HSe⟩ : ∃ S : Int, Hid (sumL H = S) := ⟨_, rfl⟩
          rw [HSe.out] at hS HN
          have hcap2 : (20 : Int) ≤ (cap : Int) := by omega
          have hcap3 : ¬ cap = 10 := by omega
          go_upto_region 9 with fail
          go_cut [] (fun wx => wx.ownsRow wo.heap.size 5 1 (.slice (some ⟨g, 0, none⟩) 20 cap) 20 (bytesV (splice H 10 [S / 256 % 256, S % 256])) ∧ Below wo.heap.size wr wx)
          case first =>
            refine wp_region_rows (by kernel_rfl) 6 [56, 57, 58, 59, 60, 61] rfl rfl (sumS g cap S) rfl 67 (by kernel_rfl) (by decide) (by kernel_rfl) (by kernel_rfl) (by kernel_rfl) rfl (by kernel_rfl) (by kernel_rfl) wr.heap.size (Nat.le_refl _) ?_ ?_
            · intro x wq hBq hb hA
              have e1 : x 1 = .slice (some ⟨g, 10, none⟩) 10 (cap - 10) := hA.2.1.1
              have r5 : RowAt wr.heap.size wq (x 5) [S / 256 % 256, S % 256] := hA.2.2.2.2.2.1.2 rfl
              obtain ⟨A5, c5, e5, q5⟩ := r5.reads 2 rfl
              simp only [List.map_cons, List.map_nil, fillL, Nat.zero_add, Nat.reduceAdd, Act.put, List.setIfInBounds_toArray, List.set_cons_succ, List.set_cons_zero, List.drop_succ_cons, List.drop_zero, e1, e5]
              clear hA e1 e5
              have hglt : g < wr.heap.size := World.ownsRow.lt hown g rfl |>.2
              refine wpList_copy_splice rfl (.tmp 57) (.tmp 61) 22 22 rfl 5 Try.underlying22 (by kernel_rfl) (some ⟨g, 10, none⟩) A5 10 (cap - 10) 2 c5 rfl rfl g 10 cur.toList 5 ((hBq.block g hglt).trans (by simpa using hcc)) (bytesV [S / 256 % 256, S % 256]) rfl (fun _ => ⟨rfl, ?_⟩) (by simp [bytesV]; omega) (bytesV_one _) wo.heap.size wr (hBq.mono hwl2) hgb ?_
              · obtain ⟨b, off, rfl, _, hcell⟩ := q5.2 (by omega)
                exact ⟨_, rfl, fun j u hu => by rw [Addr.add_lit]; exact hcell j u hu⟩
              · intro w9 hc9 hb9
                have hfinal := own_sum (base := wo.heap.size) hc9.out hcap hcm hcs htake hgb
                clear hc9
                go_wp2_with fail
                go_meet
                exact ⟨hfinal, hb9⟩
            · refine EachOp.cons ?_ (EachOp.cons ?_ (EachOp.cons ?_ (EachOp.cons ?_ (EachOp.cons ?_ (EachOp.cons ?_ EachOp.nil)))))
              all_goals (refine StepS.mk _ rfl fun r wq hBq hb hc hf ho hk K hK => ?_)
              · have h0 : r (.tmp 6) = .slice (some ⟨g, 0, none⟩) 20 cap := ho 6 rfl
                unfold OpV; go_simp; exact hK _ _ post_is
              · have h0 : r (.tmp 56) = .slice (some ⟨g, 0, none⟩) 20 cap := hk.1.1
                unfold OpV; go_simp; exact hK _ _ post_is
              · have h0 : r (.tmp 6) = .slice (some ⟨g, 0, none⟩) 20 cap := ho 6 rfl
                unfold OpV; go_simp; exact hK _ _ post_is
              · have h0 : r (.tmp 58) = .slice (some ⟨g, 0, none⟩) 20 cap := hk.1.1
                have hrd9 : Reads wq wr.heap.size 1 (some ⟨g, 0, none⟩) 20 (bytesV H) := (Reads.of_own hown).below hBq
                unfold OpV; go_simp
                refine (sum_any _ _ _ _ H _ (by omega) hHB hrd9).mono ?_
                rintro e w2 ⟨rfl, rfl⟩
                rw [HSe.out]
                exact ⟨_, rfl, hK _ _ post_is⟩
              · have h0 : r (.tmp 59) = .int .u16 S := hk.1.1
                unfold OpV; go_simp; (try rw [IntWalk.i64_in _ (by omega)]); exact hK _ _ post_is
              · have h0 : r (.tmp 60) = .int .i64 S := hk.1.1
                unfold OpV; go_simp
                refine (put2_any wq.heap.size 0 (.slice none 0 0) [] S wq (World.ownsRow_nil _ _ _ _) (by omega) (Nat.le_refl _) (by omega) (by omega)).mono ?_
                rintro e w2 ⟨v, rfl, hown2, hg2, hbk⟩
                exact ⟨_, rfl, hK _ _ (post_row ((Below.refl _ _).grown hg2 (Nat.le_refl _) (by intro k hk; cases hk)) hown2)⟩
          case rest =>
            obtain ⟨hown9, hbw⟩ := hcut
            have k8 : wc.cell? ⟨w.heap.size, 8, none⟩ = some (.slice A bs.length c) := (hB0.below hbw hBc).cell 8
            have hrd9 := hrd.below (hbw.mono (Nat.le_of_lt hBc))
            have hE9 : Ext w wc := Below.trans hEf (hbw.mono (Nat.le_of_lt hBc))
            have hwl9 : wo.heap.size ≤ wc.heap.size := Nat.le_trans hwl2 hbw.size
            clear hB0 hrd hbw hown hcc hcs htake
            go_wp2_with (at_builtin; refine app_u8 rfl _ _ rfl wo.heap.size (.slice (some ⟨g, 0, none⟩) 20 cap) 20 (splice H 10 [S / 256 % 256, S % 256]) rfl hown9 _ A bs.length c bs rfl hrd9 (by omega) hwl9 ?_; intro v10 w10 hown10 hg10 hb10)
            go_ret2
            refine ⟨_, rfl, ?_, Ext.grown hE9 hg10 (fun k e => Nat.le_trans (Nat.le_of_lt hBc) (hown9.lt k e).1)⟩
            rw [HN.out]
            have hlen : (splice H 10 [S / 256 % 256, S % 256] ++ bs).length = 20 + bs.length := by have := hown10.1; rw [bytesV_len] at this; omega
            rw [hlen]
            exact own_base hown10 (Nat.le_of_lt hBc)
    · obtain ⟨a0, a1, a2, a3, a4, a5, a6, a7, a8, af⟩ := pk_cells hB0
      go_wp2_with fail
      go_cut [5] (fun v5 wx => RowAt wo.heap.size wx v5 (six8 p t bs.length) ∧ Ext wo wx)
      case first =>
        refine wp_region_rows (by kernel_rfl) 13 [20, 21, 22, 23, 24, 25, 26, 27, 28, 29, 30, 31, 32] rfl rfl (sixS w.heap.size p t A bs.length c) rfl 67 (by kernel_rfl) (by decide) (by kernel_rfl) (by kernel_rfl) (by kernel_rfl) rfl (by kernel_rfl) (by kernel_rfl) wo.heap.size (Nat.le_refl _) ?_ ?_
        · intro x wq hBq hb hA
          have r12 : RowAt wo.heap.size wq (x 12) (six8 p t bs.length) := hA.2.2.2.2.2.2.2.2.2.2.2.2.1.2 rfl
          simp only [List.map_cons, List.map_nil, fillL, Nat.zero_add, Nat.reduceAdd, Act.put, List.setIfInBounds_toArray, List.set_cons_succ, List.set_cons_zero, List.drop_succ_cons, List.drop_zero]
          clear hA
          go_wp2_with fail
          go_meet
          exact ⟨r12, hBq⟩
        · clear a0 a1 a2 a3 a4 a5 a6 a7 a8 af
          refine EachOp.cons ?_ (EachOp.cons ?_ (EachOp.cons ?_ (EachOp.cons ?_ (EachOp.cons ?_ (EachOp.cons ?_ (EachOp.cons ?_ (EachOp.cons ?_ (EachOp.cons ?_ (EachOp.cons ?_ (EachOp.cons ?_ (EachOp.cons ?_ (EachOp.cons ?_ EachOp.nil))))))))))))
          all_goals (refine StepS.mk _ rfl fun r wq hBq hb hc hf ho hk K hK => ?_)
          · unfold OpV; go_simp
            exact hK _ _ (post_row ((Below.refl _ _).alloc (Nat.le_refl _) _) (new_row_u8 wq [96, 0, 0, 0] 4 rfl (by omega)))
          · have h0 : r (.tmp 1) = .pointer (some ⟨w.heap.size, 0, none⟩) := ho 1 rfl
            unfold OpV; go_simp; exact hK _ _ post_is
          · have h0 : r (.tmp 21) = .pointer (some ⟨w.heap.size, 8, none⟩) := hk.1.1
            obtain ⟨a0, a1, a2, a3, a4, a5, a6, a7, a8, af⟩ := pk_cells (hB0.below hBq hBc)
            unfold OpV; go_simp; exact hK _ _ post_is
          · have h0 : r (.tmp 22) = .slice A bs.length c := hk.1.1
            unfold OpV; go_simp; exact hK _ _ post_is
          · have e : r (.tmp 23) = .int .i64 (bs.length : Int) := hk.2.1.1
            have hrow : RowAt wo.heap.size wq (r (.tmp 20)) [96, 0, 0, 0] := hk.1.2 rfl
            obtain ⟨v, hv⟩ : ∃ v, r (.tmp 20) = v := ⟨_, rfl⟩
            have hv' := hv
            rw [hv] at hrow
            unfold OpV; go_simp
            refine (put2_any wo.heap.size _ v _ (bs.length : Int) wq hrow (by simp) hb (by omega) (by omega)).mono ?_
            rintro e w2 ⟨v2, rfl, hown, hg, hbk⟩
            exact ⟨_, rfl, hK _ _ (post_eat (t := 20) rfl (by rw [hv']; exact hg) (by rw [hv']; exact hbk) hown)⟩
          · have h0 : r (.tmp 1) = .pointer (some ⟨w.heap.size, 0, none⟩) := ho 1 rfl
            unfold OpV; go_simp; exact hK _ _ post_is
          · have h0 : r (.tmp 25) = .pointer (some ⟨w.heap.size, 6, none⟩) := hk.1.1
            obtain ⟨a0, a1, a2, a3, a4, a5, a6, a7, a8, af⟩ := pk_cells (hB0.below hBq hBc)
            unfold OpV; go_simp; exact hK _ _ post_is
          · have h0 : r (.tmp 26) = .int .i64 p := hk.1.1
            unfold OpV; go_simp; (try rw [wrap8 hp]); exact hK _ _ post_is
          · have h0 : r (.tmp 1) = .pointer (some ⟨w.heap.size, 0, none⟩) := ho 1 rfl
            unfold OpV; go_simp; exact hK _ _ post_is
          · have h0 : r (.tmp 28) = .pointer (some ⟨w.heap.size, 7, none⟩) := hk.1.1
            obtain ⟨a0, a1, a2, a3, a4, a5, a6, a7, a8, af⟩ := pk_cells (hB0.below hBq hBc)
            unfold OpV; go_simp; exact hK _ _ post_is
          · have h0 : r (.tmp 29) = .int .i64 t := hk.1.1
            unfold OpV; go_simp; (try rw [wrap8 ht]); exact hK _ _ post_is
          · have h0 : r (.tmp 27) = .int .u8 p := hk.1.1
            have h2 : r (.tmp 30) = .int .u8 t := hk.2.1.1
            unfold OpV; go_simp
            exact hK _ _ (post_row ((Below.refl _ _).alloc (Nat.le_refl _) _) (new_row_u8 wq [p, t] 2 rfl (by omega)))
          · have hrow : RowAt wo.heap.size wq (r (.tmp 24)) ([96, 0, 0, 0] ++ [(bs.length : Int) / 256 % 256, (bs.length : Int) % 256]) := hk.1.2 rfl
            have hsrc : RowAt wo.heap.size wq (r (.tmp 31)) [p, t] := hk.2.1.2 rfl
            obtain ⟨A2, c2, e2, q2⟩ := hsrc.reads 2 rfl
            exact opv_append (.tmp 24) (.tmp 31) rfl wo.heap.size _ _ hrow _ A2 _ c2 e2 q2 (by simp) hb fun v' w' h1 h2 h3 => hK _ _ (post_eat (t := 24) rfl h2 h3 h1)
      case rest =>
        obtain ⟨h5, hx5⟩ := hcut
        clear a0 a1 a2 a3 a4 a5 a6 a7 a8 af
        replace hB0 := hB0.below hx5 hBc
        have k8 : wc.cell? ⟨w.heap.size, 8, none⟩ = some (.slice A bs.length c) := hB0.cell 8
        have he4 : RowAt w1.heap.size wc u4 (addrB true shi slo ++ addrB d.v6 d.hi d.lo) := own_ext hends hx5
        obtain ⟨A4, c4, rfl, q4⟩ := he4.reads _ rfl
        obtain ⟨A5, c5, rfl, _⟩ := h5.reads 8 rfl
        have hEc2 := hEc.trans hx5
        have hrd : Reads wc w.heap.size 1 A bs.length (bytesV bs) := hrc.below (hx5.mono (by omega))
        have hL : (addrB true shi slo ++ addrB d.v6 d.hi d.lo).length ≤ 32 := by rw [List.length_append, addrB_len, addrB_len]; cases d.v6 <;> decide
        have henc : encP ⟨true, shi, slo⟩ d p t bs.length bs = six8 p t bs.length ++ (addrB true shi slo ++ addrB d.v6 d.hi d.lo) ++ bs := rfl
        have HN := Lib.hid henc
        have hwl : wo.heap.size ≤ wc.heap.size := hx5.size
        clear henc he4 hends hB0 hx5
        generalize addrB true shi slo ++ addrB d.v6 d.hi d.lo = ends at *
        generalize hL2 : ends.length = L at *
        go_upto_region 6 with fail
        go_cut [2, 3] (fun v2 v3 wx => v3 = .int .i64 0 ∧ wx.ownsRow wo.heap.size 5 1 v2 (8 + L + bs.length) (bytesV (six8 p t bs.length ++ ends ++ bs)) ∧ Ext w wx)
        case first =>
          clear HN hL2
          have hEd := hEc2.drew
          have h5o : (World.drew wc).ownsRow wo.heap.size 5 1 (.slice A5 8 c5) 8 (bytesV (six8 p t bs.length)) := h5
          have hwd : wo.heap.size ≤ (World.drew wc).heap.size := hwl
          have q4d := q4.drew
          have hw1 : w.heap.size ≤ wo.heap.size := Nat.le_of_lt hBc
          have hb6 : 8 + L ≤ 1000000000 := by omega
          have hb7 : 8 + L + bs.length ≤ 1000000000 := by omega
          have hbl : ∀ g, (Value.slice A5 8 c5).ownBlock = some g → wo.heap.size ≤ g := fun g e => (RowAt.lt h5 e).1
          have hne8 : some w.heap.size ≠ (Value.slice A5 8 c5).ownBlock := fun e => by have := hbl _ e.symm; omega
          go_region_held3 (fun w' => w'.cell? ⟨w.heap.size, 8, none⟩ = some (.slice A bs.length c)) (first | go_keep | assumption)
            (first
              | (refine step_u8 (by rfl) (.tmp 33) (.tmp 34) (by rfl) wo.heap.size (.slice A5 8 c5) 8 (six8 p t bs.length) (by rfl) h5o _ A4 L c4 ends (by rfl) q4d hb6 hwd ?_; intro v6 w6 hown6 hg6 hb6; have k86 := hg6.cell (a := ⟨w.heap.size, 8, none⟩) k8 hne8; have hr6 := Reads.grown (w := World.drew wc) hrd hg6 (Nat.le_trans (Nat.le_of_lt hBc) hwd) (fun g e => Nat.le_trans hw1 (hbl g e)); have hE6 := Ext.grown hEd hg6 (fun g e => Nat.le_trans hw1 (hbl g e)))
              | (refine step_u8 (by rfl) (.tmp 35) (.tmp 37) (by rfl) wo.heap.size v6 (8 + L) (six8 p t bs.length ++ ends) (by rfl) hown6 _ A bs.length c bs (by rfl) hr6 hb7 (Nat.le_trans hwd hg6.size) ?_; intro v7 w7 hown7 hg7 hb7; have hE7 := Ext.grown hE6 hg7 (fun g e => Nat.le_trans hw1 (hown6.lt g e).1); have k87 := hg7.cell (a := ⟨w.heap.size, 8, none⟩) k86 (fun e => Nat.lt_irrefl _ (Nat.lt_of_lt_of_le hBc (hown6.lt _ e.symm).1))))
          all_goals (go_wp2_with fail; go_meet; exact ⟨rfl, hown7, hE7⟩)
        case rest =>
          obtain ⟨rfl, hown, hx⟩ := hcut
          go_wp2_with fail
          go_ret2
          refine ⟨_, rfl, ?_, hx⟩
          rw [HN.out]
          have hlen : (six8 p t bs.length ++ ends ++ bs).length = 8 + L + bs.length := by rw [List.length_append, List.length_append, hL2]; rfl
          rw [hlen]
          exact own_base hown (Nat.le_of_lt hBc)

end Go.Proofs.Ytcdfmgkcadpgbaa
