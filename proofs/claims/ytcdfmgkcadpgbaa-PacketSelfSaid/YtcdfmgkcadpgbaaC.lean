/-
  The walk of the statement on the sum of bytes with their own sum and with two words exchanged.
-/
import Derived.Test.YtcdfmgkcadpgbaaB
namespace Go.Proofs.Ytcdfmgkcadpgbaa
open Go.RowKit

theorem Try.infoU8 : (Try.prog.info? 5).map (fun i => (i.zero, i.size, i.bytes)) = some (some (.int .u8 0), 1, 1) := by kernel_rfl

theorem bytesV_one (bs : List Int) : ∀ u ∈ bytesV bs, u.oneCell' = true := by
  intro u hu; simp only [bytesV, List.mem_map] at hu; obtain ⟨x, _, rfl⟩ := hu; rfl

/-- append of bytes onto a row of the call's own -/
theorem app_u8 {w : World} {ops : Array Oper} {rest : List Oper} {o : Oper} {a : Act} {Q : Exit → Act → World → Prop} (hgd : o.guard = none) (s x : Operand)
    (ho : o.op = .call { callee := .builtin .append, args := #[s, x], argTypes := #[22, 22] })
    (base : Nat) (v : Value) (n : Nat) (xs : List Int) (hs : a.eval s = v) (hown : w.ownsRow base 5 1 v n (bytesV xs))
    (B : Nat) (A : Option Addr) (m c : Nat) (ys : List Int) (hx : a.eval x = .slice A m c) (hr : Reads w B 1 A m (bytesV ys))
    (hbytes : n + m ≤ 1000000000) (hbase : base ≤ w.heap.size)
    (h : ∀ v' w', w'.ownsRow base 5 1 v' (n + m) (bytesV (xs ++ ys)) → w.grownBy w' v.ownBlock → (v'.ownBlock = v.ownBlock ∨ v'.ownBlock = some w.heap.size) → wpList Try.prog ops Q rest (a.put o.dst v') w') : wpList Try.prog ops Q (o :: rest) a w := by
  obtain ⟨i0, hi, hz0, hz1, hz2⟩ := info_parts Try.infoU8
  refine wpList_append_any w hgd s x 22 ho base 5 i0 (.int .u8 0) 1 1 Try.underlying22 hi hz0 hz1 hz2 rfl (by decide) v n (bytesV xs) hs hown B A m c (bytesV ys) hx hr (bytesV_one ys) (by unfold maxLen; omega) (by omega) hbase ?_
  intro v' w' h1 h2 h3
  exact h v' w' (by simpa [bytesV] using h1) h2 h3

theorem IsB.take {bs : List Int} (h : IsB bs) (k : Nat) : IsB (bs.take k) := fun x hx => h x (List.mem_of_mem_take hx)
theorem Reads.take {w : World} {B n k : Nat} {A : Option Addr} {bs : List Int} (h : Reads w B 1 A n (bytesV bs)) (hk : k ≤ n) : Reads w B 1 A k (bytesV (bs.take k)) := by
  have hl := h.1
  rw [bytesV_len] at hl
  refine ⟨by rw [bytesV_len, List.length_take]; omega, fun hn => ?_⟩
  obtain ⟨b, off, e, hb, hc⟩ := h.2 (by omega)
  refine ⟨b, off, e, hb, fun j u hu => hc j u ?_⟩
  unfold bytesV at hu ⊢
  rw [List.map_take, List.getElem?_take] at hu
  split at hu
  · exact hu
  · cases hu

theorem own_set {w : World} {base e g n cap i : Nat} {xs : List Int} (h : w.ownsRow base e 1 (.slice (some ⟨g, 0, none⟩) n cap) n (bytesV xs)) (hi : i < n) (x : Int) :
    (w.setCell ⟨g, i, none⟩ (.int .u8 x)).ownsRow base e 1 (.slice (some ⟨g, 0, none⟩) n cap) n (bytesV (xs.set i x)) := by
  obtain ⟨hl, h | ⟨g', cap', cur, hv, hb, hg, hn, hm, hs, ht⟩⟩ := h
  · cases h.1
  · injection hv with e1 e2 e3
    injection e1 with e1
    injection e1 with e1
    subst e1
    subst e3
    rw [bytesV_len] at hl
    refine ⟨by rw [bytesV_len, List.length_set, hl], .inr ⟨_, _, cur.setIfInBounds i (.int .u8 x), rfl, hb, ?_, hn, hm, by simpa using hs, ?_⟩⟩
    · simp [World.setCell, Array.getElem?_modify, hg]
    · simp only [Nat.mul_one] at ht ⊢
      rw [Array.toList_setIfInBounds, List.take_set, ht]
      simp [bytesV, List.map_set]

theorem IsB.set {bs : List Int} (h : IsB bs) (i : Nat) {x : Int} (hx : 0 ≤ x ∧ x ≤ 255) : IsB (bs.set i x) := by
  intro y hy
  rcases List.mem_or_eq_of_mem_set hy with h1 | rfl
  · exact h y h1
  · exact hx
theorem IsB.append {xs ys : List Int} (h : IsB xs) (k : IsB ys) : IsB (xs ++ ys) := by
  intro y hy
  rcases List.mem_append.1 hy with h1 | h1
  · exact h y h1
  · exact k y h1
theorem IsB.two {x y : Int} (hx : 0 ≤ x ∧ x ≤ 255) (hy : 0 ≤ y ∧ y ≤ 255) : IsB [x, y] := by
  intro z hz
  simp only [List.mem_cons, List.not_mem_nil, or_false] at hz
  rcases hz with rfl | rfl
  · exact hx
  · exact hy
theorem IsB.swap {bs : List Int} (h : IsB bs) (i k : Nat) : IsB (swapW bs i k) := (((h.set _ (h.at _)).set _ (h.at _)).set _ (h.at _)).set _ (h.at _)

set_option maxHeartbeats 400000 in
theorem self_short (A : Option Addr) (n c : Nat) (p q : Int) (w : World) (hn : n < 2 ∨ 600 < n) :
    Calls Try.prog 3 #[.slice A n c, .int .i64 p, .int .i64 q] w fun e w' => e = .returned (.bool true) ∧ Below w.heap.size w w' := by
  by_cases h6 : n ≤ 600
  · have h2 : decide ((n : Int) < 2) = true := by simp; omega
    have h6' : decide ((n : Int) ≤ 600) = true := by simp; omega
    go_enter Try.func3, Try.ntmps3
    go_wp2_with (first | (go_at_call 9; refine (short_any _ _ _ _).mono ?_; rintro e w' ⟨rfl, rfl⟩) | (go_at_call 10; refine (awake_any _).mono ?_; rintro e w' ⟨rfl, hb⟩))
    go_ret
    exact ⟨rfl, hb⟩
  · have h6' : decide ((n : Int) ≤ 600) = false := by simp; omega
    go_enter Try.func3, Try.ntmps3
    go_wp2_with (first | (go_at_call 9; refine (short_any _ _ _ _).mono ?_; rintro e w' ⟨rfl, rfl⟩) | (go_at_call 10; refine (awake_any _).mono ?_; rintro e w' ⟨rfl, hb⟩))
    go_ret
    exact ⟨rfl, hb⟩

theorem swap_rel {w1 : World} {base e g n cap i k : Nat} {xs : List Int} (h : w1.ownsRow base e 1 (.slice (some ⟨g, 0, none⟩) n cap) n (bytesV xs)) (hi : 2 * i + 1 < n) (hk : 2 * k + 1 < n) :
    ((((w1.drew.setCell ⟨g, 2 * i, none⟩ (.int .u8 (gB xs (2 * k)))).setCell ⟨g, 2 * i + 1, none⟩ (.int .u8 (gB xs (2 * k + 1)))).setCell ⟨g, 2 * k, none⟩ (.int .u8 (gB xs (2 * i)))).setCell ⟨g, 2 * k + 1, none⟩ (.int .u8 (gB xs (2 * i + 1)))).ownsRow base e 1 (.slice (some ⟨g, 0, none⟩) n cap) n (bytesV (swapW xs i k)) ∧
    w1.grownBy ((((w1.drew.setCell ⟨g, 2 * i, none⟩ (.int .u8 (gB xs (2 * k)))).setCell ⟨g, 2 * i + 1, none⟩ (.int .u8 (gB xs (2 * k + 1)))).setCell ⟨g, 2 * k, none⟩ (.int .u8 (gB xs (2 * i)))).setCell ⟨g, 2 * k + 1, none⟩ (.int .u8 (gB xs (2 * i + 1)))) (some g) := by
  have h0 := own_drew h
  have h1 := own_set h0 (i := 2 * i) (by omega) (gB xs (2 * k))
  have h2 := own_set h1 (i := 2 * i + 1) (by omega) (gB xs (2 * k + 1))
  have h3 := own_set h2 (i := 2 * k) (by omega) (gB xs (2 * i))
  have h4 := own_set h3 (i := 2 * k + 1) (by omega) (gB xs (2 * i + 1))
  have g0 : w1.grownBy w1.drew (some g) := only_drew (World.grownBy.refl _ _)
  have g1 := only_setCell g0 (p := ⟨g, 2 * i, none⟩) (.inl rfl) (.int .u8 (gB xs (2 * k)))
  have g2 := only_setCell g1 (p := ⟨g, 2 * i + 1, none⟩) (.inl rfl) (.int .u8 (gB xs (2 * k + 1)))
  have g3 := only_setCell g2 (p := ⟨g, 2 * k, none⟩) (.inl rfl) (.int .u8 (gB xs (2 * i)))
  have g4 := only_setCell g3 (p := ⟨g, 2 * k + 1, none⟩) (.inl rfl) (.int .u8 (gB xs (2 * i + 1)))
  refine ⟨?_, g4⟩
  unfold swapW
  exact h4

set_option maxHeartbeats 4000000 in
set_option maxRecDepth 100000 in
theorem self_main (A : Option Addr) (n c : Nat) (p q : Int) (bs : List Int) (w : World) (h2 : 2 ≤ n) (h6 : n ≤ 600) (hc : n ≤ c) (hB : IsB bs) (hr : Reads w w.heap.size 1 A n (bytesV bs)) :
    Calls Try.prog 3 #[.slice A n c, .int .i64 p, .int .i64 q] w fun e w' => e = .returned (.bool true) ∧ Below w.heap.size w w' := by
  have h2' : decide ((n : Int) < 2) = false := by simp; omega
  have h6' : decide ((n : Int) ≤ 600) = true := by simp; omega
  go_enter Try.func3, Try.ntmps3
  go_wp2_with (first | (go_at_call 9; refine (short_any _ _ _ _).mono ?_; rintro e w' ⟨rfl, rfl⟩))
  obtain ⟨m, Hm⟩ : ∃ m : Nat, Hid (m = n / 2 * 2) := ⟨_, rfl⟩
  have hr2 : Reads w w.heap.size 1 A (n / 2 * 2) (bytesV (bs.take (n / 2 * 2))) := hr.take (by omega)
  refine (sum_any _ _ _ _ (bs.take (n / 2 * 2)) _ (by omega) (hB.take _) hr2).mono ?_
  rintro e w' ⟨rfl, rfl⟩
  go_wp2_with (at_builtin; refine app_u8 rfl _ _ rfl w.heap.size (.slice none 0 0) 0 [] rfl (World.ownsRow_nil _ _ _ _) w.heap.size A (n / 2 * 2) c (bs.take (n / 2 * 2)) rfl hr2 (by omega) (Nat.le_refl _) ?_; intro v1 w1 hown1 hg1 hb1)
  refine (mod_nat _ _ _ (by omega) (by omega)).mono ?_
  rintro e w' ⟨i, rfl, hi, rfl⟩
  go_wp2_with fail
  refine (mod_nat _ _ _ (by omega) (by omega)).mono ?_
  rintro e w' ⟨k, rfl, hk, rfl⟩
  simp only [Nat.zero_add, List.nil_append] at hown1
  obtain ⟨g, cap, rfl, hg0, hglt⟩ := hown1.form (by omega)
  have hr3 : Reads w1 w.heap.size 1 A (n / 2 * 2) (bytesV (bs.take (n / 2 * 2))) := hr2.grown hg1 (Nat.le_refl _) (by intro g h; cases h)
  go_wp2
  go_cut [] (fun wx => wx.ownsRow w.heap.size 5 1 (.slice (some ⟨g, 0, none⟩) (n / 2 * 2) cap) (n / 2 * 2) (bytesV (swapW (bs.take (n / 2 * 2)) i k)) ∧ w1.grownBy wx (some g))
  case first =>
    have hcc : ∀ j, j < n / 2 * 2 → w1.cell? ⟨g, j, none⟩ = some (.int .u8 (gB (bs.take (n / 2 * 2)) j)) := by
      intro j hj
      have h := hown1.cells (g := g) rfl j _ (bytesV_get (bs.take (n / 2 * 2)) j (by have := hr2.1; rw [bytesV_len] at this; omega))
      rw [Addr.add_lit] at h
      simpa using h
    have hcf : ∀ j, w1.frozen? ⟨g, j, none⟩ = false := hown1.frozenAt
    obtain ⟨b, off, hA, had, hcb⟩ : ∃ b off, A = some ⟨b, off, none⟩ ∧ b < w.heap.size ∧ ∀ j, j < n / 2 * 2 → w1.cell? ⟨b, off + j, none⟩ = some (.int .u8 (gB (bs.take (n / 2 * 2)) j)) := by
      obtain ⟨b, off, e, hb, hc⟩ := hr3.2 (by omega)
      exact ⟨b, off, e, hb, fun j hj => hc j _ (bytesV_get _ j (by have := hr2.1; rw [bytesV_len] at this; omega))⟩
    subst hA
    have b1 := hcb (2 * i) (by omega)
    have b2 := hcb (2 * i + 1) (by omega)
    have b3 := hcb (2 * k) (by omega)
    have b4 := hcb (2 * k + 1) (by omega)
    have c1 := hcc (2 * i) (by omega)
    have c2 := hcc (2 * i + 1) (by omega)
    have c3 := hcc (2 * k) (by omega)
    have c4 := hcc (2 * k + 1) (by omega)
    have f1 := hcf (2 * i)
    have f2 := hcf (2 * i + 1)
    have f3 := hcf (2 * k)
    have f4 := hcf (2 * k + 1)
    have i1 : 2 * i + 1 < n / 2 * 2 := by omega
    have i3 : 2 * k + 1 < n / 2 * 2 := by omega
    have HO := Lib.hid hown1
    have HG := Lib.hid hg1
    clear hcc hcf hcb hown1 hg1 hr hr2 hr3 hB
    have hne : b ≠ g := by omega
    by_cases hik : i = k
    · subst hik
      go_region
      all_goals go_wp2_with fail
      all_goals go_meet
      all_goals exact swap_rel HO.out i1 i1
    · have hki : ¬ k = i := fun h => hik h.symm
      have n1 : ¬ 2 * k = 2 * i + 1 := by omega
      have n2 : ¬ 2 * k + 1 = 2 * i := by omega
      have n3 : ¬ 2 * i + 1 = 2 * k := by omega
      have n4 : ¬ 2 * i = 2 * k + 1 := by omega
      go_region
      all_goals go_wp2_with fail
      all_goals go_meet
      all_goals exact swap_rel HO.out i1 i3
  case rest =>
    obtain ⟨hown2, hg2⟩ := hcut
    have hS := sumL_bd (hB.take (n / 2 * 2))
    have hln : (bs.take (n / 2 * 2)).length = n / 2 * 2 := by have := hr2.1; rw [bytesV_len] at this; omega
    have Hself : Hid (sumL (bs.take (n / 2 * 2) ++ [sumL (bs.take (n / 2 * 2)) / 256, sumL (bs.take (n / 2 * 2)) % 256]) = 0) := sumL_self _ (hB.take _) (by rw [hln]; omega)
    have Hswap : Hid (sumL (swapW (bs.take (n / 2 * 2)) i k) = sumL (bs.take (n / 2 * 2))) := sumL_swap _ i k (by rw [hln]; omega) (by rw [hln]; omega)
    have hswB : IsB (swapW (bs.take (n / 2 * 2)) i k) := IsB.swap (hB.take _) i k
    have hr4 : Reads wc w.heap.size 1 A (n / 2 * 2) (bytesV (bs.take (n / 2 * 2))) := hr3.grown hg2 (by have := hg1.size; omega) (by intro j h; injection h with h; omega)
    have hz1 : w.heap.size ≤ w1.heap.size := hg1.size
    have hz2 : w1.heap.size ≤ wc.heap.size := hg2.size
    have hbw : Below w.heap.size w wc := ((Below.refl _ _).grown hg1 (Nat.le_refl _) (by intro j h; cases h)).grown hg2 hz1 (by intro j h; injection h with h; omega)
    have HBL := hB.take (n / 2 * 2)
    clear hr hr2 hr3 hB hg1 hg2 hown1 hb1
    have Hln := Lib.hid hln
    clear hln
    generalize bs.take (n / 2 * 2) = bl at *
    obtain ⟨S, HSe⟩ : ∃ S : Int, Hid (sumL bl = S) := ⟨_, rfl⟩
    rw [HSe.out] at hS Hself Hswap ⊢
    go_wp2_with (first
      | (at_builtin; refine app_u8 rfl _ _ rfl w.heap.size (.slice none 0 0) 0 [] rfl (World.ownsRow_nil _ _ _ _) w.heap.size A (n / 2 * 2) c bl rfl hr4 (by omega) (by omega) ?_; intro v5 w5 hown5 hg5 hb5; have hz5 := hg5.size)
      | (at_builtin; refine app_u8 rfl _ _ rfl w.heap.size v5 (0 + n / 2 * 2) ([] ++ bl) rfl (hown5.alloc _) _ _ 2 2 [S / 256, S % 256] rfl (reads_new _ _ _ _ _ rfl) (by omega) (by simp; omega) ?_; intro v6 w6 hown6 hg6 hb6))
    simp only [Nat.zero_add, List.nil_append] at hown6
    obtain ⟨g6, cap6, rfl, hg60, _⟩ := hown6.form (by omega)
    have hs256 : 0 ≤ S / 256 ∧ S / 256 ≤ 255 := by omega
    refine (sum_any _ _ _ _ (bl ++ [S / 256, S % 256]) _ (by omega) (HBL.append (IsB.two hs256 (by omega))) (Reads.of_own hown6)).mono ?_
    rintro e w' ⟨rfl, rfl⟩
    rw [Hself.out]
    have hb5' : Below wc.heap.size wc w5 := (Below.refl _ _).grown hg5 (Nat.le_refl _) (by intro j h; cases h)
    have hb6' : Below wc.heap.size wc w6 := (hb5'.alloc (by omega) _).grown hg6 (by simp; omega) (by
      intro j h
      rcases hown5.2 with ⟨rfl, _⟩ | ⟨g', cap', cur', rfl, _⟩
      · cases h
      · rcases hb5 with e | e
        · cases e
        · rw [e] at h; injection h with h; omega)
    have hr8 : Reads w6 wc.heap.size 1 (some ⟨g, 0, none⟩) (n / 2 * 2) (bytesV (swapW bl i k)) := (Reads.of_own hown2).below hb6'
    have hbw6 : Below w.heap.size w w6 := hbw.trans (hb6'.mono (by omega))
    clear hb5' hb6' hg6 hg5 hb6 hb5 hown5 hown6 hown2 hbw hr4
    go_wp2_with fail
    refine (sum_any _ _ _ _ (swapW bl i k) _ (by omega) hswB hr8).mono ?_
    rintro e w' ⟨rfl, rfl⟩
    rw [Hswap.out]
    go_wp2_with (refine (awake_any _).mono ?_; rintro e w' ⟨rfl, hba⟩)
    go_ret
    exact ⟨rfl, hbw6.trans (hba.mono (by omega))⟩

end Go.Proofs.Ytcdfmgkcadpgbaa
