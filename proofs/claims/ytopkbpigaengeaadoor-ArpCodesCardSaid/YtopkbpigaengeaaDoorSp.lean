/-
  Bytes that are changed in one place: some bytes come out, in a row of the call's own.
-/
import Derived.Test.YtopkbpigaengeaaDoorAk
import Derived.Test.YtopkbpigaengeaaDoorAd
namespace Go.Proofs.YtopkbpigaengeaaDoor
open Go.RowKit

/-- an append of the call's own rows inside a drawn region -/
theorem opv_append {o : Oper} {r : Operand → Value} {w : World} {K : Value → World → Prop} (s x : Operand) (ho : o.op = .call { callee := .builtin .append, args := #[s, x], argTypes := #[38, 38] })
    (base : Nat) (xs ys : List Int) (hown : RowAt base w (r s) xs) (B : Nat) (A : Option Addr) (m c : Nat) (hx : r x = .slice A m c) (hr : Reads w B 1 A m (bytesV ys)) (hbytes : xs.length + m ≤ 1000000) (hbase : base ≤ w.heap.size)
    (h : ∀ v' w', w'.ownsRow base 5 1 v' (xs ++ ys).length (bytesV (xs ++ ys)) → w.grownBy w' (r s).ownBlock → (v'.ownBlock = (r s).ownBlock ∨ ∀ k, v'.ownBlock = some k → w.heap.size ≤ k) → K v' w') : OpV Tryd.prog o r w K := by
  obtain ⟨i0, hi, hz0, hz1, hz2⟩ := info_parts Tryd.infoU8
  obtain ⟨v', w', hrun, h2, h3, h4⟩ := run_append_any (P := Tryd.prog) w base 38 o.type 5 i0 (.int .u8 0) 1 1 Tryd.underlying38 hi hz0 hz1 hz2 rfl (by decide) (r s) xs.length (bytesV xs) hown B A m c (bytesV ys) hr (bytesV_one ys) (by unfold maxLen; omega) (by omega) hbase
  have hm : m = ys.length := by have := hr.1; rw [bytesV_len] at this; omega
  subst hm
  unfold OpV execOp
  simp only [ho, resolve, invoke, builtin, Sem.run_bind, Sem.run_pure, Result.andThen_ok, List.map_toArray, List.map_cons, List.map_nil, hx, hrun]
  refine h v' w' (by rw [List.length_append]; simpa [bytesV] using h2) h3 ?_
  rcases h4 with h4 | h4
  · exact .inl h4
  · refine .inr fun k hk => ?_
    rw [h4] at hk
    injection hk with hk
    exact Nat.le_of_eq hk

/-- some bytes, in a row -/
def SpPost (m : Nat) (w : World) (e : Ending) (w' : World) : Prop := ∃ (v : Value) (xs : List Int), e = .returned v ∧ IsB xs ∧ xs.length ≤ m + 1 ∧ FDat w' v xs ∧ Ext w w'

theorem own_pre {w : World} {base g cap n : Nat} {cur : Array Value} {bs : List Int} (hb : base ≤ g) (hg : w.heap[g]? = some (.cells cur 5 (0, 0))) (hn : n ≤ cap) (hm : cap ≤ maxLen) (hs : cur.size = cap) (hc : cur.toList.take n = bytesV bs) (hl : bs.length = n) (k : Nat) (hk : k ≤ n) :
    w.ownsRow base 5 1 (.slice (some ⟨g, 0, none⟩) k cap) (bs.take k).length (bytesV (bs.take k)) := by
  have e : (bs.take k).length = k := by simp; omega
  refine ⟨by rw [bytesV_len]; omega, .inr ⟨g, cap, cur, by rw [e], hb, hg, by omega, hm, by omega, ?_⟩⟩
  rw [e, Nat.mul_one]
  have : (cur.toList.take n).take k = (bytesV bs).take k := by rw [hc]
  rw [List.take_take, Nat.min_eq_left hk] at this
  rw [this]
  simp [bytesV, List.map_take]

theorem reads_tail {w : World} {B g cap n : Nat} {bs : List Int} (h : Reads w B 1 (some ⟨g, 0, none⟩) n (bytesV bs)) (k : Nat) (hk : k ≤ n) : Reads w B 1 (if cap = k then some (⟨g, 0, none⟩ : Addr) else some ⟨g, k, none⟩) (n - k) (bytesV (bs.drop k)) ∨ cap = k := by
  by_cases hc : cap = k
  · exact .inr hc
  · left
    rw [if_neg hc]
    have hl := h.1
    rw [bytesV_len] at hl
    refine ⟨by rw [bytesV_len, List.length_drop]; omega, fun hp => ?_⟩
    obtain ⟨b, off, e, hb, hcell⟩ := h.2 (by omega)
    injection e with e
    injection e with e1 e2
    subst e1 e2
    refine ⟨g, k, rfl, hb, fun j u hu => ?_⟩
    have := hcell (k + j) u (by simpa [bytesV, List.map_drop, List.getElem?_drop] using hu)
    rw [Nat.zero_add] at this
    exact this
theorem reads_tail' {w : World} {B g cap n : Nat} {bs : List Int} (h : Reads w B 1 (some ⟨g, 0, none⟩) n (bytesV bs)) (k : Nat) (hk : k ≤ n) (hn : n ≤ cap) : Reads w B 1 (if cap = k then some (⟨g, 0, none⟩ : Addr) else some ⟨g, k, none⟩) (n - k) (bytesV (bs.drop k)) := by
  rcases reads_tail (cap := cap) h k hk with h1 | h1
  · exact h1
  · have hl := h.1
    rw [bytesV_len] at hl
    refine ⟨by rw [bytesV_len, List.length_drop]; omega, fun hp => by omega⟩

theorem own_form {w : World} {base n : Nat} {v : Value} {xs : List Value} (h : w.ownsRow base 5 1 v n xs) : ∃ A c, v = .slice A n c := by
  rcases h.2 with ⟨e, h0⟩ | ⟨g, cap, cur, e, _⟩
  · exact ⟨none, 0, by rw [e, h0]⟩
  · exact ⟨_, _, e⟩
theorem app_ext0' {w w' : World} (hg : w.grownBy w' (Value.slice none 0 0).ownBlock) : Ext w w' := (Below.refl _ _).grown hg (Nat.le_refl _) (by intro k hk; cases hk)
theorem isB_set {bs : List Int} (h : IsB bs) {x : Int} (hx : 0 ≤ x ∧ x ≤ 255) (k : Nat) : IsB (bs.set k x) := by
  intro y hy
  rcases List.mem_or_eq_of_mem_set hy with h1 | h1
  · exact h y h1
  · rw [h1]; exact hx
theorem own_set {w : World} {base g cap n : Nat} {cur : Array Value} {bs : List Int} (hb : base ≤ g) (hg : w.heap[g]? = some (.cells cur 5 (0, 0))) (hn : n ≤ cap) (hm : cap ≤ maxLen) (hs : cur.size = cap) (hc : cur.toList.take n = bytesV bs) (hl : bs.length = n) (k : Nat) (x : Int) :
    (w.setCell ⟨g, k, none⟩ (.int .u8 x)).ownsRow base 5 1 (.slice (some ⟨g, 0, none⟩) n cap) (bs.set k x).length (bytesV (bs.set k x)) := by
  have hB : Blk w g 5 cur := hg
  have e : (bs.set k x).length = n := by rw [List.length_set]; exact hl
  refine ⟨by rw [bytesV_len]; omega, .inr ⟨g, cap, _, by rw [e], hb, hB.set_ k (.int .u8 x), by omega, hm, by simpa using hs, ?_⟩⟩
  rw [e, Nat.mul_one, Array.toList_setIfInBounds, List.take_set, hc]
  simp [bytesV, List.map_set]

/-- the facts of the region that takes a byte out -/
def outF (g n cap k : Nat) (A6 : Option Addr) : List (Fact (fun _ => False)) :=
  [.is (.slice (some ⟨g, 0, none⟩) n cap), .is (.int .i64 (k : Int)), .is (.slice (some ⟨g, 0, none⟩) k cap), .is (.slice (some ⟨g, 0, none⟩) n cap), .is (.int .i64 (k : Int)), .is (.int .i64 ((k : Int) + 1)), .is (.slice A6 (n - (k + 1)) (cap - (k + 1)))]
/-- what the operations of the region leave that puts a byte in -/
def inS (g n cap k : Nat) (A10 : Option Addr) (by_ x : Int) (bs : List Int) : List OpSpec :=
  [isV (.slice (some ⟨g, 0, none⟩) n cap), isV (.int .i64 (k : Int)), isV (.slice (some ⟨g, 0, none⟩) k cap), rowV ([] ++ bs.take k), isV (.int .i64 by_), isV (.int .u8 x), rowV [x], eatV 3 ([] ++ bs.take k ++ [x]),
   isV (.slice (some ⟨g, 0, none⟩) n cap), isV (.int .i64 (k : Int)), isV (.slice A10 (n - k) (cap - k)), eatV 7 ([] ++ bs.take k ++ [x] ++ bs.drop k)]

set_option maxRecDepth 100000 in
set_option maxHeartbeats 4000000 in
theorem spoilt_any (A : Option Addr) (c : Nat) (at_ by_ : Int) (bs : List Int) (w : World) (hB : IsB bs) (hr : Reads w w.heap.size 1 A bs.length (bytesV bs)) (hl : bs.length ≤ 100000) :
    Calls Tryd.prog 20 #[.slice A bs.length c, .int .i64 at_, .int .i64 by_] w (SpPost bs.length w) := by
  have hx : 0 ≤ by_ % 256 ∧ by_ % 256 ≤ 255 := by omega
  obtain ⟨n, Hl⟩ : ∃ n, Hid (bs.length = n) := ⟨_, rfl⟩
  have hln : bs.length = n := Hl.out
  rw [hln] at hr hl ⊢
  have hsum : 0 + n ≤ 1000000000 := by omega
  obtain ⟨x, HX⟩ : ∃ x, Hid (by_ % 256 = x) := ⟨_, rfl⟩
  rw [HX.out] at hx
  have HX2 : Hid (IntKind.u8.wrap by_ = x) := (IntKind.wrap_u8 by_).trans HX.out
  clear hln
  by_cases h0 : n = 0
  · subst h0
    have h1 : ((0 : Nat) : Int) = 0 := rfl
    go_enter Tryd.func20, Tryd.ntmps20
    go_wp2_with (at_builtin; refine app_u8 rfl (.const (.slice none 0 0)) (.tmp 9) rfl w.heap.size (.slice none 0 0) 0 [] rfl (World.ownsRow_nil _ _ _ _) _ A 0 c bs rfl hr hsum (Nat.le_refl _) ?_; intro v1 w1 hown1 hg1 hb1; obtain ⟨A1, c1, rfl⟩ := own_form hown1)
    have hE1 := app_ext0' hg1
    go_ret
    rw [HX.out]
    exact ⟨_, [x], rfl, IsB.one hx, by simp, FDat.of_own (base := w1.heap.size) (new_row_u8 w1 [x] 1 rfl (by omega)), hE1.alloc _⟩
  · have hpos : 0 < n := by omega
    have h1 : ¬ ((n : Int) = 0) := by omega
    go_enter Tryd.func20, Tryd.ntmps20
    go_wp2_with (at_builtin; refine app_u8 rfl (.const (.slice none 0 0)) (.tmp 9) rfl w.heap.size (.slice none 0 0) 0 [] rfl (World.ownsRow_nil _ _ _ _) _ A n c bs rfl hr hsum (Nat.le_refl _) ?_; intro v1 w1 hown1 hg1 hb1; simp only [Nat.zero_add, List.nil_append] at hown1; obtain ⟨g, cap, cur, rfl, hbg, hcells, hcap, hmax, hsz, htake⟩ := own_open hown1 hpos)
    have hE1 := app_ext0' hg1
    have hr1 := Reads.of_own hown1
    have hgl : g < w1.heap.size := Blk.lt hcells
    clear hg1 hb1
    refine (mod_any at_ (n : Int) _ (by omega) (by omega)).mono ?_
    rintro e w2 ⟨rfl, rfl⟩
    obtain ⟨hm0, hm1⟩ := modf_bd at_ (n : Int) (by omega)
    obtain ⟨k, hk⟩ := Int.eq_ofNat_of_zero_le hm0
    rw [hk] at hm1 ⊢
    have hkn : k < n := by omega
    clear hk hm0 hm1
    go_wp2_with fail
    refine (mod_any _ 4 _ (by omega) (by omega)).mono ?_
    rintro e w2 ⟨rfl, rfl⟩
    obtain ⟨q0, q1⟩ := modf_bd (wrap64 (by_.tdiv 256)) 4 (by omega)
    generalize modf (wrap64 (by_.tdiv 256)) 4 = r at *
    obtain rfl | rfl | rfl | rfl : r = 0 ∨ r = 1 ∨ r = 2 ∨ r = 3 := by omega
    · have i1 : ((k : Int) < (n : Int)) := by omega
      have cg : w1.cell? ⟨g, k, none⟩ = some (.int .u8 (gB bs k)) := by
        have := (hr1.2 hpos)
        obtain ⟨b, off, e, _, hc⟩ := this
        injection e with e
        injection e with e1 e2
        subst e1 e2
        have := hc k _ (bytesV_get bs k (by have := Hl.out; omega))
        rwa [Nat.zero_add] at this
      have hBg : Blk w1 g 5 cur := hcells
      have cf : w1.frozen? ⟨g, k, none⟩ = false := hBg.frozen k
      go_wp2_with fail
      go_ret
      rw [HX.out]
      have hown := own_set hbg hcells hcap hmax hsz htake Hl.out k x
      exact ⟨_, bs.set k x, rfl, isB_set hB hx k, by rw [List.length_set, Hl.out]; omega, FDat.of_own hown, hE1.setCell (p := ⟨g, k, none⟩) hbg _⟩
    · have i2 : ((k : Int) + 1 ≤ (n : Int)) := by omega
      have i3 : ((0 : Int) ≤ (k : Int) + 1) := by omega
      have i4 : ((k : Int) ≤ (cap : Int)) := by omega
      have i6 : ((n : Int) ≤ (cap : Int)) := by omega
      have hw1 : IntKind.i64.wrap ((k : Int) + 1) = (k : Int) + 1 := IntWalk.i64_in _ (by omega)
      have hre := reads_tail' (cap := cap) hr1 (k + 1) (by omega) hcap
      have hop := own_pre hbg hcells hcap hmax hsz htake Hl.out k (by omega)
      have e : (bs.take k).length = k := by have := Hl.out; simp; omega
      rw [e] at hop
      have hsum1 : k + (n - (k + 1)) ≤ 1000000000 := by omega
      obtain ⟨A6, HA6⟩ : ∃ A6, Hid ((if cap = k + 1 then some (⟨g, 0, none⟩ : Addr) else some ⟨g, k + 1, none⟩) = A6) := ⟨_, rfl⟩
      rw [HA6.out] at hre
      have HRE := Lib.hid hre
      have HOP := Lib.hid hop
      have HW1 := Lib.hid hw1
      clear hre hop hw1 e
      go_wp2_with fail
      refine wp_region_gfacts (by kernel_rfl) 7 [some 36, some 37, some 38, some 39, some 40, some 41, some 42] rfl rfl (fun _ => False) (outF g n cap k A6) (fun wq => Keep (fun _ => False) w1 wq) [] [] 59 (by kernel_rfl) (by kernel_rfl) (by kernel_rfl) (by kernel_rfl) (by kernel_rfl) (by kernel_rfl) rfl (by kernel_rfl) (by kernel_rfl) trivial trivial (Keep.refl _ _).drew ?_ ?_
      · intro x wq hR hA _
        have e2 : x 2 = .slice (some ⟨g, 0, none⟩) k cap := hA.2.2.1
        have e6 : x 6 = .slice A6 (n - (k + 1)) (cap - (k + 1)) := hA.2.2.2.2.2.2.1
        simp only [fillL, Nat.zero_add, Nat.reduceAdd, Act.put, List.setIfInBounds_toArray, List.set_cons_succ, List.set_cons_zero, List.drop_succ_cons, List.drop_zero, e2, e6]
        clear e2 e6 hA
        have hEq := hR.below (Nat.le_refl _) (fun _ h => h.elim)
        have hre := HRE.out.ext hEq
        have hop := own_ext HOP.out hEq
        have hEw := hE1.trans hEq
        go_wp2_with (at_builtin; refine app_u8 rfl (.tmp 38) (.tmp 42) rfl w.heap.size (.slice (some ⟨g, 0, none⟩) k cap) k (bs.take k) rfl hop _ _ _ _ (bs.drop (k + 1)) rfl hre hsum1 hEw.size ?_; intro v5 w5 hown5 hg5 hb5)
        go_ret
        have el : (bs.take k ++ bs.drop (k + 1)).length = k + (n - (k + 1)) := by have := Hl.out; simp; omega
        rw [← el] at hown5
        exact ⟨_, bs.take k ++ bs.drop (k + 1), rfl, (take_isB hB _).append (drop_isB hB _), by omega, FDat.of_own hown5, hEw.grown hg5 (fun j hj => by obtain rfl : g = j := Option.some.inj hj; exact hbg)⟩
      · refine EachOp.cons ?_ (EachOp.cons ?_ (EachOp.cons ?_ (EachOp.cons ?_ (EachOp.cons ?_ (EachOp.cons ?_ (EachOp.cons ?_ EachOp.nil))))))
        all_goals (refine StepG.run rfl fun r wq hR hc hf ho hk K hK => ?_)
        · have g0 : r (.tmp 7) = .slice (some ⟨g, 0, none⟩) n cap := ho 7 rfl
          unfold OpV; go_simp; exact hK _ _ hR (Keep.refl _ _) rfl (fun h => by simp at h)
        · have g0 : r (.tmp 8) = .int .i64 (k : Int) := ho 8 rfl
          unfold OpV; go_simp; exact hK _ _ hR (Keep.refl _ _) rfl (fun h => by simp at h)
        · have g0 : r (.tmp 36) = .slice (some ⟨g, 0, none⟩) n cap := hk.1
          have g1 : r (.tmp 37) = .int .i64 (k : Int) := hk.2.1
          unfold OpV; go_simp; exact hK _ _ hR (Keep.refl _ _) rfl (fun h => by simp at h)
        · have g0 : r (.tmp 7) = .slice (some ⟨g, 0, none⟩) n cap := ho 7 rfl
          unfold OpV; go_simp; exact hK _ _ hR (Keep.refl _ _) rfl (fun h => by simp at h)
        · have g0 : r (.tmp 8) = .int .i64 (k : Int) := ho 8 rfl
          unfold OpV; go_simp; exact hK _ _ hR (Keep.refl _ _) rfl (fun h => by simp at h)
        · have g0 : r (.tmp 40) = .int .i64 (k : Int) := hk.1
          unfold OpV; go_simp; exact hK _ _ hR (Keep.refl _ _) (by rw [HW1.out]; rfl) (fun h => by simp at h)
        · have g0 : r (.tmp 39) = .slice (some ⟨g, 0, none⟩) n cap := hk.1
          have g1 : r (.tmp 41) = .int .i64 ((k : Int) + 1) := hk.2.1
          unfold OpV; go_simp; exact hK _ _ hR (Keep.refl _ _) (by rw [HA6.out]; rfl) (fun h => by simp at h)
    · have i2 : ((k : Int) ≤ (n : Int)) := by omega
      have i3 : ((0 : Int) ≤ (k : Int)) := by omega
      have i4 : ((k : Int) ≤ (cap : Int)) := by omega
      have i6 : ((n : Int) ≤ (cap : Int)) := by omega
      have hre := reads_tail' (cap := cap) hr1 k (by omega) hcap
      have hrp := (hr1.take (k := k) (by omega))
      have e : (bs.take k).length = k := by have := Hl.out; simp; omega
      have ed : (bs.drop k).length = n - k := by have := Hl.out; simp; omega
      obtain ⟨A6, HA6⟩ : ∃ A6, Hid ((if cap = k then some (⟨g, 0, none⟩ : Addr) else some ⟨g, k, none⟩) = A6) := ⟨_, rfl⟩
      rw [HA6.out] at hre
      have HRE := Lib.hid hre
      have HRP := Lib.hid hrp
      have He := Lib.hid e
      have Hed := Lib.hid ed
      clear hre hrp e ed
      go_wp2_with fail
      refine wp_region_rows (by kernel_rfl) 12 [46, 47, 48, 49, 50, 51, 52, 53, 54, 55, 56, 57] rfl rfl (inS g n cap k A6 by_ x bs) rfl 59 (by kernel_rfl) (by decide) (by kernel_rfl) (by kernel_rfl) (by kernel_rfl) rfl (by kernel_rfl) (by kernel_rfl) w1.heap.size (Nat.le_refl _) ?_ ?_
      · intro y wq hBq hb hA
        have r11 : RowAt w1.heap.size wq (y 11) ([] ++ bs.take k ++ [x] ++ bs.drop k) := hA.2.2.2.2.2.2.2.2.2.2.2.1.2 rfl
        have hEw := hE1.trans hBq
        simp only [List.map_cons, List.map_nil, fillL, Nat.zero_add, Nat.reduceAdd, Act.put, List.setIfInBounds_toArray, List.set_cons_succ, List.set_cons_zero, List.drop_succ_cons, List.drop_zero]
        clear hA
        go_wp2_with fail
        go_ret
        refine ⟨_, [] ++ bs.take k ++ [x] ++ bs.drop k, rfl, ((IsB.append (fun x hx => by cases hx) (take_isB hB _)).append (IsB.one hx)).append (drop_isB hB _), ?_, FDat.of_own r11, hEw⟩
        simp only [List.length_append, He.out, Hed.out, List.length_cons, List.length_nil]
        omega
      · refine EachOp.cons ?_ (EachOp.cons ?_ (EachOp.cons ?_ (EachOp.cons ?_ (EachOp.cons ?_ (EachOp.cons ?_ (EachOp.cons ?_ (EachOp.cons ?_ (EachOp.cons ?_ (EachOp.cons ?_ (EachOp.cons ?_ (EachOp.cons ?_ EachOp.nil)))))))))))
        all_goals (refine StepS.mk _ rfl fun r wq hBq hb hc hf ho hk K hK => ?_)
        · have g0 : r (.tmp 7) = .slice (some ⟨g, 0, none⟩) n cap := ho 7 rfl
          unfold OpV; go_simp; exact hK _ _ post_is
        · have g0 : r (.tmp 8) = .int .i64 (k : Int) := ho 8 rfl
          unfold OpV; go_simp; exact hK _ _ post_is
        · have g0 : r (.tmp 46) = .slice (some ⟨g, 0, none⟩) n cap := hk.1.1
          have g1 : r (.tmp 47) = .int .i64 (k : Int) := hk.2.1.1
          unfold OpV; go_simp; exact hK _ _ post_is
        · have h0 : r (.tmp 48) = .slice (some ⟨g, 0, none⟩) k cap := hk.1.1
          exact opv_append (.const (.slice none 0 0)) (.tmp 48) rfl wq.heap.size [] (bs.take k) (by rw [hc]; exact World.ownsRow_nil _ _ _ _) _ (some ⟨g, 0, none⟩) k cap h0 (HRP.out.ext hBq) (by simp; omega) (Nat.le_refl _) fun v' w' h1 h2 h3 => hK _ _ (post_row ((Below.refl _ _).grown h2 (Nat.le_refl _) (by rw [hc]; intro j hj; cases hj)) h1)
        · have g0 : r (.tmp 2) = .int .i64 by_ := ho 2 rfl
          unfold OpV; go_simp; exact hK _ _ post_is
        · have g0 : r (.tmp 50) = .int .i64 by_ := hk.1.1
          unfold OpV; go_simp; rw [HX2.out]; exact hK _ _ post_is
        · have g0 : r (.tmp 51) = .int .u8 x := hk.1.1
          unfold OpV; go_simp
          exact hK _ _ (post_row ((Below.refl _ _).alloc (Nat.le_refl _) _) (new_row_u8 wq [x] 1 rfl (by omega)))
        · have hrow : RowAt w1.heap.size wq (r (.tmp 49)) ([] ++ bs.take k) := hk.1.2 rfl
          have hsrc : RowAt w1.heap.size wq (r (.tmp 52)) [x] := hk.2.1.2 rfl
          obtain ⟨A2, c2, e2, q2⟩ := hsrc.reads 1 rfl
          exact opv_append (.tmp 49) (.tmp 52) rfl w1.heap.size _ _ hrow _ A2 _ c2 e2 q2 (by have := He.out; simp only [List.length_append, List.length_nil]; omega) hb fun v' w' h1 h2 h3 => hK _ _ (post_eat (t := 49) rfl h2 h3 h1)
        · have g0 : r (.tmp 7) = .slice (some ⟨g, 0, none⟩) n cap := ho 7 rfl
          unfold OpV; go_simp; exact hK _ _ post_is
        · have g0 : r (.tmp 8) = .int .i64 (k : Int) := ho 8 rfl
          unfold OpV; go_simp; exact hK _ _ post_is
        · have g0 : r (.tmp 54) = .slice (some ⟨g, 0, none⟩) n cap := hk.1.1
          have g1 : r (.tmp 55) = .int .i64 (k : Int) := hk.2.1.1
          unfold OpV; go_simp; rw [HA6.out]; exact hK _ _ post_is
        · have hrow : RowAt w1.heap.size wq (r (.tmp 53)) ([] ++ bs.take k ++ [x]) := hk.1.2 rfl
          have h1 : r (.tmp 56) = .slice A6 (n - k) (cap - k) := hk.2.1.1
          exact opv_append (.tmp 53) (.tmp 56) rfl w1.heap.size _ (bs.drop k) hrow _ A6 _ _ h1 (HRE.out.ext hBq) (by have := He.out; simp only [List.length_append, List.length_nil, List.length_cons]; omega) hb fun v' w' h1 h2 h3 => hK _ _ (post_eat (t := 53) rfl h2 h3 h1)
    · go_wp2_with fail
      go_ret
      have hp := own_pre hbg hcells hcap hmax hsz htake Hl.out k (by omega)
      have e : (bs.take k).length = k := by have := Hl.out; simp; omega
      exact ⟨_, bs.take k, rfl, take_isB hB k, by omega, FDat.of_own (by rw [e] at hp ⊢; exact hp), hE1⟩
end Go.Proofs.YtopkbpigaengeaaDoor
