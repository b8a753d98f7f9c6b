/-
  The check sums of data between two addresses.
-/
import Derived.Test.YtcdfmgkcadpgbaaI
namespace Go.Proofs.Ytcdfmgkcadpgbaa
open Go.RowKit

theorem bcell {W w1 : World} (hb : Below W.heap.size W w1) : (∀ b o, b < W.heap.size → w1.cell? ⟨b, o, none⟩ = W.cell? ⟨b, o, none⟩) ∧ (∀ b o, b < W.heap.size → w1.frozen? ⟨b, o, none⟩ = W.frozen? ⟨b, o, none⟩) :=
  ⟨fun b o h => hb.cell (p := ⟨b, o, none⟩) h, fun b o h => hb.frozen (p := ⟨b, o, none⟩) h⟩

theorem bcellK {W w1 : World} {K : Nat} (hb : Below W.heap.size W w1) (hK : K ≤ W.heap.size) : (∀ b o, b < K → w1.cell? ⟨b, o, none⟩ = W.cell? ⟨b, o, none⟩) ∧ (∀ b o, b < K → w1.frozen? ⟨b, o, none⟩ = W.frozen? ⟨b, o, none⟩) :=
  ⟨fun b o h => hb.cell (p := ⟨b, o, none⟩) (Nat.lt_of_lt_of_le h hK), fun b o h => hb.frozen (p := ⟨b, o, none⟩) (Nat.lt_of_lt_of_le h hK)⟩

theorem step_u8 {w : World} {ops : Array Oper} {o : Oper} {a : Act} {K : Act → World → Prop} {Q : Exit → Act → World → Prop} {E : Prop} (hgd : o.guard = none) (s x : Operand)
    (ho : o.op = .call { callee := .builtin .append, args := #[s, x], argTypes := #[22, 22] })
    (base : Nat) (v : Value) (n : Nat) (xs : List Int) (hs : a.eval s = v) (hown : w.ownsRow base 5 1 v n (bytesV xs))
    (B : Nat) (A : Option Addr) (m c : Nat) (ys : List Int) (hx : a.eval x = .slice A m c) (hr : Reads w B 1 A m (bytesV ys))
    (hbytes : n + m ≤ 1000000000) (hbase : base ≤ w.heap.size)
    (h : ∀ v' w', w'.ownsRow base 5 1 v' (n + m) (bytesV (xs ++ ys)) → w.grownBy w' v.ownBlock → (v'.ownBlock = v.ownBlock ∨ v'.ownBlock = some w.heap.size) → K (a.put o.dst v') w') :
    if Region.wanted o (yielded ops a.tmps) = true then Oper.wp Try.prog o a w K Q else E := by
  obtain ⟨i0, hi, hz0, hz1, hz2⟩ := info_parts Try.infoU8
  refine step_append_any w hgd s x 22 ho base 5 i0 (.int .u8 0) 1 1 Try.underlying22 hi hz0 hz1 hz2 rfl (by decide) v n (bytesV xs) hs hown B A m c (bytesV ys) hx hr (bytesV_one ys) (by unfold maxLen; omega) (by omega) hbase ?_
  intro v' w' h1 h2 h3
  exact h v' w' (by simpa [bytesV] using h1) h2 h3
theorem Ext.grown {a w w' : World} {row : Option Nat} (h : Ext a w) (hg : w.grownBy w' row) (hr : ∀ k, row = some k → a.heap.size ≤ k) : Ext a w' :=
  Below.grown h hg (Below.size h) hr

theorem bcellG {W w1 : World} {K : Nat} {row : Option Nat} (hg : W.grownBy w1 row) (hK : K ≤ W.heap.size) (hr : ∀ k, row = some k → K ≤ k) : (∀ b o, b < K → w1.cell? ⟨b, o, none⟩ = W.cell? ⟨b, o, none⟩) ∧ (∀ b o, b < K → w1.frozen? ⟨b, o, none⟩ = W.frozen? ⟨b, o, none⟩) :=
  ⟨fun b o h => hg.cell_far ⟨b, o, none⟩ (Nat.lt_of_lt_of_le h hK) (fun e => by have := hr _ e.symm; simp at this; omega), fun b o h => hg.frozen_far ⟨b, o, none⟩ (Nat.lt_of_lt_of_le h hK) (fun e => by have := hr _ e.symm; simp at this; omega)⟩

/-- what is summed up -/
def checkD (shi slo dhi dlo proto : Int) (n : Nat) (bs : List Int) : List Int :=
  addrB true shi slo ++ addrB true dhi dlo ++ [(n : Int) / 16777216, (n : Int) / 65536, (n : Int) / 256 % 256, (n : Int) % 256, 0, 0, 0, proto % 256] ++ bs

/-- the boxes of two addresses -/
def BoxS (w w' : World) (a b c d e f : Value) : Prop :=
  w'.cell? ⟨w.heap.size, 0, none⟩ = some a ∧ w'.cell? ⟨w.heap.size, 1, none⟩ = some b ∧ w'.cell? ⟨w.heap.size, 2, none⟩ = some c ∧
  w'.cell? ⟨w.heap.size + 1, 0, none⟩ = some d ∧ w'.cell? ⟨w.heap.size + 1, 1, none⟩ = some e ∧ w'.cell? ⟨w.heap.size + 1, 2, none⟩ = some f

set_option maxHeartbeats 400000 in
theorem rsum_any (A : Option Addr) (n c B : Nat) (bs : List Int) (w : World) (hn : n ≤ 1000000) (hB : IsB bs) (hr : Reads w B 1 A n (bytesV bs)) :
    Calls Try.prog 19 #[.slice A n c] w fun e w' => e = .returned (.int .u16 (sumL bs)) ∧ w = w' := by
  have hl : Hid (bs.length = n) := by have := hr.1; rw [bytesV_len] at this; show bs.length = n; omega
  go_enter Try.func19, Try.ntmps19
  go_wp2
  go_loop [3, 8] (fun s i => ∃ k : Nat, k ≤ n ∧ i = .int .i64 k ∧ s = .int .i64 (accN (gB bs) k)) (fun _ i => n - (intOf i).toNat)
  case atStart => exact ⟨0, Nat.zero_le _, rfl, rfl⟩
  case round =>
    obtain ⟨k, hk, rfl, rfl⟩ := hrel
    have ha := accN_bd (gB bs) k (fun j => hB.at j)
    by_cases hlt : k < n
    · obtain ⟨b, off, u, rfl, _, hu, hck⟩ := hr.at_ hlt
      rw [bytesV_get bs k (by rw [hl.out]; exact hlt)] at hu
      obtain rfl := Option.some.inj hu
      have hfk := hB.at k
      clear hu hr hB
      go_wp2
      · have he : k % 2 = 0 := by have : ((k : Int) % 2 == 0) = true := by assumption
                                  simp at this; omega
        go_round
        case rel => exact ⟨k + 1, by omega, by go_num, by rw [accN, if_pos he]⟩
        case measure => simp [intOf]; omega
      · have he : ¬ k % 2 = 0 := by have : ((k : Int) % 2 == 0) = false := by assumption
                                    simp at this; omega
        go_round
        case rel => exact ⟨k + 1, by omega, by go_num, by rw [accN, if_neg he]⟩
        case measure => simp [intOf]; omega
    · obtain rfl : k = n := by omega
      clear hlt hk hr hB
      obtain ⟨t0, Ht0⟩ : ∃ t : Int, Hid (t = accN (gB bs) k) := ⟨_, rfl⟩
      rw [← Ht0.out] at ha ⊢
      go_wp2
      go_loop [3] (fun s => ∃ t : Int, 0 ≤ t ∧ t ≤ 65280 * k ∧ s = .int .i64 t ∧ Hid (foldS t = foldS t0)) (fun s => (intOf s).toNat)
      case atStart => exact ⟨t0, ha.1, ha.2, rfl, rfl⟩
      case round =>
        obtain ⟨t, ht1, ht2, rfl, HT⟩ := hrel
        by_cases hbig : 65535 < t
        · have hand : bits .and .i64 t 65535 = t % 65536 := and_mask t 16 (by omega) ht1 (by omega)
          go_wp2
          go_round
          case rel => exact ⟨t / 65536 + t % 65536, by omega, by omega, rfl, (foldS_step hbig).trans HT.out⟩
          case measure => simp [intOf]; omega
        · go_wp2
          go_ret
          refine ⟨ret_eq ?_, rfl⟩
          show 65535 - t = 65535 - foldS (accN _ bs.length)
          rw [hl.out, ← Ht0.out, ← HT.out, foldS_small ht1 (by omega)]

set_option maxHeartbeats 4000000 in
theorem rcheck_any (shi slo dhi dlo proto : Int) (A : Option Addr) (n c : Nat) (bs : List Int) (w : World) (h1 : U64 shi) (h2 : U64 slo) (h3 : U64 dhi) (h4 : U64 dlo) (hn : n ≤ 100000) (hB : IsB bs)
    (hr : Reads w w.heap.size 1 A n (bytesV bs)) :
    Calls Try.prog 21 #[.agg #[.bool true, .int .u64 shi, .int .u64 slo], .agg #[.bool true, .int .u64 dhi, .int .u64 dlo], .int .i64 proto, .slice A n c] w fun e w' =>
      e = .returned (.int .u16 (sumL (checkD shi slo dhi dlo proto n bs))) ∧ Ext w w' := by
  go_enter Try.func21, Try.ntmps21
  go_wp2
  go_cut [10] (fun s10 wx => ∃ (v : Value), s10 = v ∧ wx.ownsRow w.heap.size 5 1 v 32 (bytesV (addrB true shi slo ++ addrB true dhi dlo)) ∧ Ext w wx)
  case first =>
    go_region_held3 (fun w' => w'.cell? ⟨w.heap.size, 0, none⟩ = some (.bool true) ∧ w'.cell? ⟨w.heap.size, 1, none⟩ = some (.int .u64 shi) ∧ w'.cell? ⟨w.heap.size, 2, none⟩ = some (.int .u64 slo) ∧
        w'.cell? ⟨w.heap.size + 1, 0, none⟩ = some (.bool true) ∧ w'.cell? ⟨w.heap.size + 1, 1, none⟩ = some (.int .u64 dhi) ∧ w'.cell? ⟨w.heap.size + 1, 2, none⟩ = some (.int .u64 dlo)) (simp +arith [*, World.cell?_alloc_some, World.cell?_setCell_far])
      (first
        | (go_at_call 35; refine (rbytes_six _ _ _ rfl (by assumption) (by assumption)).mono ?_; rintro e w2 ⟨v, rfl, hown, hb⟩; obtain ⟨g2, cap2, rfl, hg2, hgl⟩ := hown.form (by omega); have hbs := Below.size hb; (try simp only [World.size_drew, World.size_alloc] at hbs); (try simp only [World.size_drew, World.size_alloc] at hg2); obtain ⟨bc, bf⟩ := bcellK (K := w.heap.size + 2) hb (by first | omega | (simp only [World.size_drew, World.size_alloc]; omega)))
        | (refine step_u8 (by rfl) _ _ (by rfl) w.heap.size _ 16 (addrB true shi slo) (by rfl) (own_base (own_ext (by assumption) hb) (by simp; omega)) _ _ 16 _ (addrB true dhi dlo) (by rfl) (Reads.of_own hown) (by omega) (by omega) ?_; intro v6 w6 hown6 hg6 hb6; obtain ⟨bc, bf⟩ := bcellG (K := w.heap.size + 2) hg6 (by omega) (by intro k hk; cases hk; (try dsimp only); omega)))
    all_goals go_wp2_with fail
    all_goals go_meet
    all_goals
      refine ⟨v6, rfl, hown6, ?_⟩
      refine Ext.grown ?_ hg6 (by intro k hk; cases hk; (try dsimp only); omega)
      refine Ext.trans ?_ hb
      refine Ext.trans ?_ (by assumption)
      exact (((Ext.refl w).alloc _).alloc _).drew
  case rest =>
    obtain ⟨v, rfl, hown, hx⟩ := hcut
    have hsz := Below.size hx
    have hr2 := hr.ext hx
    have hAl : (addrB true shi slo ++ addrB true dhi dlo).length = 32 := by simp [addrB_len]
    have HAl := Lib.hid hAl
    clear hAl
    have hB1 : IsB (addrB true shi slo ++ addrB true dhi dlo) := (beN_isB _ _).append (beN_isB _ _)
    have HD : Hid (checkD shi slo dhi dlo proto n bs = addrB true shi slo ++ addrB true dhi dlo ++ [(n : Int) / 16777216, (n : Int) / 65536, (n : Int) / 256 % 256, (n : Int) % 256, 0, 0, 0, proto % 256] ++ bs) := rfl
    generalize addrB true shi slo ++ addrB true dhi dlo = al at *
    go_wp2_with (first
      | (at_builtin; refine app_u8 rfl _ _ rfl w.heap.size _ 32 al rfl (hown.alloc _) _ _ 8 8 [(n : Int) / 16777216, (n : Int) / 65536, (n : Int) / 256 % 256, (n : Int) % 256, 0, 0, 0, proto % 256] rfl (reads_new _ _ _ _ _ rfl) (by omega) (by simp; omega) ?_; intro v5 w5 hown5 hg5 hb5)
      | (at_builtin; have hz5 := hg5.size; (try simp only [World.size_alloc] at hz5); have he5 : Ext w w5 := Ext.grown (hx.alloc _) hg5 (fun k hk => (hown.lt k hk).1); have hr5 : Reads w5 w5.heap.size 1 A n (bytesV bs) := hr.ext he5; refine app_u8 rfl _ _ rfl w.heap.size v5 (32 + 8) (al ++ [(n : Int) / 16777216, (n : Int) / 65536, (n : Int) / 256 % 256, (n : Int) % 256, 0, 0, 0, proto % 256]) rfl hown5 _ A n c bs rfl hr5 (by omega) (by omega) ?_; intro v6 w6 hown6 hg6 hb6))
    obtain ⟨A6, c6, rfl⟩ : ∃ A6 c6, v6 = .slice A6 (32 + 8 + n) c6 := by
      obtain ⟨g6, c6, e6, _⟩ := hown6.form (by omega)
      exact ⟨_, _, e6⟩
    have hB2 : IsB [(n : Int) / 16777216, (n : Int) / 65536, (n : Int) / 256 % 256, (n : Int) % 256, 0, 0, 0, proto % 256] := by
      intro x hx
      simp only [List.mem_cons, List.not_mem_nil, or_false] at hx
      rcases hx with rfl | rfl | rfl | rfl | rfl | rfl | rfl | rfl <;> omega
    have he6 : Ext w w6 := Ext.grown he5 hg6 (fun k hk => (hown5.lt k hk).1)
    obtain ⟨S, HS⟩ : ∃ S : Int, Hid (sumL (al ++ [(n : Int) / 16777216, (n : Int) / 65536, (n : Int) / 256 % 256, (n : Int) % 256, 0, 0, 0, proto % 256] ++ bs) = S) := ⟨_, rfl⟩
    refine (rsum_any _ _ _ _ _ _ (by omega) ((hB1.append hB2).append hB) (Reads.of_own hown6)).mono ?_
    rintro e w7 ⟨rfl, rfl⟩
    rw [HS.out]
    go_wp2
    go_ret
    exact ⟨by rw [HD.out, HS.out]; rfl, he6⟩

/-- a row of slices of bytes that was just laid, as the library's contract on Join has it -/
theorem parts_of (w : World) (t : TypeId) (l : List (Option Addr × Nat × Nat × List Int)) (h : ∀ p ∈ l, Reads w w.heap.size 1 p.1 p.2.1 (bytesV p.2.2.2) ∧ IsB p.2.2.2) :
    Lib.PartsAt (w.alloc (.cells (l.map fun p => Value.slice p.1 p.2.1 p.2.2.1).toArray t)) ⟨w.heap.size, 0, none⟩ (l.map fun p => Value.slice p.1 p.2.1 p.2.2.1) (l.map fun p => toU p.2.2.2) := by
  refine ⟨by simp, fun i v hv => ?_, fun i v x hv hx => ?_⟩
  · rw [Addr.add_lit, World.cell?_alloc_at _ _ _ _ rfl]
    simpa using hv
  · simp only [List.getElem?_map, Option.map_eq_some_iff] at hv hx
    obtain ⟨p, hp, rfl⟩ := hv
    obtain ⟨q, hq, rfl⟩ := hx
    rw [hp] at hq
    obtain rfl := Option.some.inj hq
    obtain ⟨hr, hb⟩ := h p (List.mem_of_getElem? hp)
    have hl := hr.1
    rw [bytesV_len, Nat.mul_one] at hl
    rw [← hl]
    rw [← hl] at hr
    exact holds_of (hr.extAlloc _) hb
theorem toU_append (xs ys : List Int) : toU (xs ++ ys) = toU xs ++ toU ys := by simp [toU]
theorem join5 (a b c d e : List UInt8) : Lib.join [a, b, c, d, e] [] = a ++ b ++ c ++ d ++ e := by simp [Lib.join, List.intercalate]

set_option maxHeartbeats 400000 in
theorem join_check (w : World) (g : Nat) (hg : w.heap.size = g) (A1 A2 A3 A4 A5 : Option Addr) (n1 n2 n3 n4 n5 c1 c2 c3 c4 c5 : Nat) (b1 b2 b3 b4 b5 : List Int)
    (r1 : Reads w w.heap.size 1 A1 n1 (bytesV b1)) (r2 : Reads w w.heap.size 1 A2 n2 (bytesV b2)) (r3 : Reads w w.heap.size 1 A3 n3 (bytesV b3)) (r4 : Reads w w.heap.size 1 A4 n4 (bytesV b4)) (r5 : Reads w w.heap.size 1 A5 n5 (bytesV b5))
    (i1 : IsB b1) (i2 : IsB b2) (i3 : IsB b3) (i4 : IsB b4) (i5 : IsB b5) (hs : n1 + n2 + n3 + n4 + n5 ≤ 1000000) :
    Calls Try.prog 32 #[.slice (some ⟨g, 0, none⟩) 5 5, .slice none 0 0]
      (w.alloc (.cells #[.slice A1 n1 c1, .slice A2 n2 c2, .slice A3 n3 c3, .slice A4 n4 c4, .slice A5 n5 c5] 22)) fun e w' =>
      ∃ A c, e = .returned (.slice A (n1 + n2 + n3 + n4 + n5) c) ∧ Reads w' w'.heap.size 1 A (n1 + n2 + n3 + n4 + n5) (bytesV (b1 ++ b2 ++ b3 ++ b4 ++ b5)) ∧ Ext w w' := by
  subst hg
  have hP := parts_of w 22 [(A1, n1, c1, b1), (A2, n2, c2, b2), (A3, n3, c3, b3), (A4, n4, c4, b4), (A5, n5, c5, b5)] (by
    intro p hp
    simp only [List.mem_cons, List.not_mem_nil, or_false] at hp
    rcases hp with rfl | rfl | rfl | rfl | rfl
    · exact ⟨r1, i1⟩
    · exact ⟨r2, i2⟩
    · exact ⟨r3, i3⟩
    · exact ⟨r4, i4⟩
    · exact ⟨r5, i5⟩)
  have l1 := r1.1
  have l2 := r2.1
  have l3 := r3.1
  have l4 := r4.1
  have l5 := r5.1
  rw [bytesV_len, Nat.mul_one] at l1 l2 l3 l4 l5
  refine (Try.bytes_Join_many w.heap.size 0 5 5 _ _ (.slice none 0 0) [] _ rfl (by omega) hP (by omega) ⟨none, 0, rfl, fun _ => rfl, fun a h => by cases h⟩ (by omega) ?_).mono ?_
  · simp [Lib.lens, toU_len]
    omega
  · rintro e w' ⟨v, rfl, hf, hb⟩
    obtain ⟨A, c, rfl, hr⟩ := reads_fresh hf
    have e1 : Lib.join ([(A1, n1, c1, b1), (A2, n2, c2, b2), (A3, n3, c3, b3), (A4, n4, c4, b4), (A5, n5, c5, b5)].map fun p => toU p.2.2.2) [] = toU (b1 ++ b2 ++ b3 ++ b4 ++ b5) := by
      show Lib.join [toU b1, toU b2, toU b3, toU b4, toU b5] [] = _
      rw [join5, toU_append, toU_append, toU_append, toU_append]
    rw [e1, toU_map ((((i1.append i2).append i3).append i4).append i5), toU_len] at hr
    have e2 : (b1 ++ b2 ++ b3 ++ b4 ++ b5).length = n1 + n2 + n3 + n4 + n5 := by simp only [List.length_append, l1, l2, l3, l4, l5]
    rw [e2] at hr
    refine ⟨A, c, ?_, hr, ((Ext.refl w).alloc _).trans hb⟩
    rw [e1, toU_len, e2]

theorem checkD_eq (shi slo dhi dlo proto : Int) (n : Nat) (bs : List Int) (hn : n ≤ 100000) :
    addrB true shi slo ++ addrB true dhi dlo ++ ([] ++ [(n : Int) / 65536 / 256 % 256, (n : Int) / 65536 % 256] ++ [(n : Int) / 256 % 256, (n : Int) % 256]) ++ [0, 0, 0, IntKind.u8.wrap proto] ++ bs = checkD shi slo dhi dlo proto n bs := by
  unfold checkD
  have e1 : (n : Int) / 65536 / 256 % 256 = (n : Int) / 16777216 := by omega
  have e2 : (n : Int) / 65536 % 256 = (n : Int) / 65536 := by omega
  have e3 : IntKind.u8.wrap proto = proto % 256 := by rw [IntKind.wrap_u8']
  rw [e1, e2, e3]
  simp
theorem checkD_isB (shi slo dhi dlo proto : Int) (n : Nat) (bs : List Int) (hn : n ≤ 100000) (hB : IsB bs) : IsB (checkD shi slo dhi dlo proto n bs) := by
  unfold checkD
  refine (((beN_isB _ _).append (beN_isB _ _)).append ?_).append hB
  intro x hx
  simp only [List.mem_cons, List.not_mem_nil, or_false] at hx
  rcases hx with rfl | rfl | rfl | rfl | rfl | rfl | rfl | rfl <;> omega

theorem reads_blk {w : World} {g n : Nat} {t : TypeId} {l : List Value} (h : Blk w g t l.toArray) (hn : l.length = n * 1 := by rfl) : Reads w w.heap.size 1 (some ⟨g, 0, none⟩) n l := by
  refine ⟨hn, fun _ => ⟨g, 0, rfl, h.lt, fun j u hu => ?_⟩⟩
  rw [Nat.zero_add, h.cell]
  simpa using hu

end Go.Proofs.Ytcdfmgkcadpgbaa
