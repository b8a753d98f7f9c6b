/-
  The deck's addresses.
-/
import Derived.Test.YtcdfmgkcadpgbaaD
import Derived.Test.YtcdfmgkcadpgbaaRg
namespace Go.Proofs.Ytcdfmgkcadpgbaa
open Go.RowKit

/-- an address, as a value of three cells -/
def addrV (v6 : Bool) (hi lo : Int) : Value := .agg #[.bool v6, .int .u64 hi, .int .u64 lo]
/-- a valid address -/
def AddrOk (v6 : Bool) (hi lo : Int) : Prop := 0 ≤ hi ∧ hi < 18446744073709551616 ∧ 0 ≤ lo ∧ lo < 18446744073709551616 ∧ (v6 = false → hi = 0 ∧ lo < 4294967296)

/-- element k of the lists of numbers in Addr -/
def pk5 : Nat → Int
  | 0 => 0 | 1 => 1 | 2 => 4294967295 | 3 => 2147483647 | _ => 2147483648
def pk4 : Nat → Int
  | 0 => 0 | 1 => 1 | 2 => 18446744073709551615 | _ => 9223372036854775808
theorem pk5_at {r : Nat} (h : r < 5) : (#[.int .u64 0, .int .u64 1, .int .u64 4294967295, .int .u64 2147483647, .int .u64 2147483648] : Array Value)[r]? = some (.int .u64 (pk5 r)) := by
  obtain rfl | rfl | rfl | rfl | rfl : r = 0 ∨ r = 1 ∨ r = 2 ∨ r = 3 ∨ r = 4 := by omega
  all_goals rfl
theorem pk4_at {r : Nat} (h : r < 4) : (#[.int .u64 0, .int .u64 1, .int .u64 18446744073709551615, .int .u64 9223372036854775808] : Array Value)[r]? = some (.int .u64 (pk4 r)) := by
  obtain rfl | rfl | rfl | rfl : r = 0 ∨ r = 1 ∨ r = 2 ∨ r = 3 := by omega
  all_goals rfl
theorem addrOk6 {hi lo : Int} (h1 : 0 ≤ hi) (h2 : hi < 18446744073709551616) (h3 : 0 ≤ lo) (h4 : lo < 18446744073709551616) : AddrOk true hi lo := ⟨h1, h2, h3, h4, by simp⟩
theorem addrOkW (a b : Int) : AddrOk true (IntKind.u64.wrap a) (IntKind.u64.wrap b) := by
  have h := fun a => bounds_u64 (wf_wrap .u64 a)
  exact addrOk6 (h a).1 (by have := (h a).2; omega) (h b).1 (by have := (h b).2; omega)
theorem pk5_ok {r : Nat} : AddrOk false 0 (pk5 r) := by
  unfold AddrOk pk5
  split <;> simp
theorem pk4_ok {r q : Nat} : AddrOk true (pk4 r) (pk4 q) := by
  unfold AddrOk
  have h : ∀ r, 0 ≤ pk4 r ∧ pk4 r < 18446744073709551616 := by
    intro r
    unfold pk4
    split <;> simp
  exact ⟨(h r).1, (h r).2, (h q).1, (h q).2, by simp⟩

/-- what Addr leaves: an address in block r0 -/
def AddrEnd (w : World) (B g r0 : Nat) (wx : World) : Prop :=
  ∃ (v6 : Bool) (hi lo : Int), AddrOk v6 hi lo ∧ Blk wx r0 32 #[.bool v6, .int .u64 hi, .int .u64 lo] ∧ w.grownBy wx (some g) ∧ DeckOk wx B g

theorem addrEnd_mk {w w3 : World} {B g r0 : Nat} {x y z : Value} (v6 : Bool) (hi lo : Int) (hok : AddrOk v6 hi lo) (hb : Blk w3 r0 32 #[x, y, z]) (hg : w.grownBy w3 (some g)) (hd : DeckOk w3 B g) (h1 : g < r0) (h2 : w.heap.size ≤ r0) :
    AddrEnd w B g r0 (((w3.setCell ⟨r0, 0, none⟩ (.bool v6)).setCell ⟨r0, 1, none⟩ (.int .u64 hi)).setCell ⟨r0, 2, none⟩ (.int .u64 lo)) :=
  ⟨v6, hi, lo, hok, hb.set3 _ _ _, grown_set3 hg h2 _ _ _, hd.set3 h1 _ _ _⟩

/-- the world behind some operations that take numbers from the deck g and make memory -/
def DkR (w : World) (B g : Nat) (wq : World) : Prop := Keep (· = g) w wq ∧ DeckOk wq B g
theorem DkR.alloc {w wq : World} {B g : Nat} (h : DkR w B g wq) (o : Obj) : DkR w B g (wq.alloc o) := ⟨h.1.alloc o, h.2.alloc o⟩
theorem DkR.drew {w wq : World} {B g : Nat} (h : DkR w B g wq) : DkR w B g wq.drew := ⟨h.1.drew, h.2.drew⟩
theorem DkR.step {w wq w' : World} {B g : Nat} (h : DkR w B g wq) (hg : wq.grownBy w' (some g)) (hd : DeckOk w' B g) : DkR w B g w' :=
  ⟨h.1.trans (Keep.of_grown hg (by intro k e; injection e with e; exact e.symm)), hd⟩
theorem keep_of {w w' : World} {g : Nat} (hg : w.grownBy w' (some g)) : Keep (· = g) w w' := Keep.of_grown hg (by intro k e; injection e with e; exact e.symm)

section
variable {w wq : World} {B g : Nat} {r : Operand → Value} {K : Value → World → Prop} {d : Option Tmp} {t u : Tmp} {p : String} {ty : TypeId} {af : Array Edge}
/-- the deck's pointer is moved -/
theorem opv_deck (h0 : r (.tmp t) = .pointer (some ⟨g, 0, none⟩)) (hR : DkR w B g wq) (hK : ∀ x w', DkR w B g w' → Keep (· = g) wq w' → x = .pointer (some ⟨g, 0, none⟩) → K x w') :
    OpV Try.prog { dst := d, op := .move (.tmp t), type := ty, pos := p, after := af, guard := none } r wq K := by
  unfold OpV; go_simp; exact hK _ _ hR (Keep.refl _ _) rfl
/-- a number below n is taken -/
theorem opv_next (n : Nat) (hn : 1 ≤ n) (hn2 : n ≤ 4611686018427387904) (hR : DkR w B g wq) (hK : ∀ x w', DkR w B g w' → Keep (· = g) wq w' → (Fact.lt (X := (· = g)) n).1 x w' → K x w') :
    Calls Try.prog 29 #[.pointer (some ⟨g, 0, none⟩), .int .i64 (n : Int)] wq fun e w'' => ∃ v, e = .returned v ∧ K v w'' := by
  refine (next_any B g (n : Int) wq (by omega) (by omega) hR.2).mono ?_
  rintro e w2 ⟨q, rfl, hq, hg2, hz2, hd2⟩
  exact ⟨_, rfl, hK _ _ (hR.step hg2 hd2) (keep_of hg2) ⟨q, rfl, by omega⟩⟩
theorem lt_deck (hR : DkR w B g wq) : g < wq.heap.size := hR.2.lt
/-- an element of a row of numbers -/
theorem opv_index_u64 {n m : Nat} {cs : Array Value} {P : Value → Prop} (hm : m ≤ n) (hn : n ≤ 1000000) (hP : ∀ q, q < m → ∃ x, cs[q]? = some x ∧ P x)
    (h1 : (Fact.row (X := (· = g)) 30 n n cs).1 (r (.tmp t)) wq) (h2 : (Fact.lt (X := (· = g)) m).1 (r (.tmp u)) wq) (hR : DkR w B g wq) (hK : ∀ x w', DkR w B g w' → Keep (· = g) wq w' → (Fact.ptr (X := (· = g)) P).1 x w' → K x w') :
    OpV Try.prog { dst := d, op := .indexAddr 63 (.tmp t) (.tmp u), type := ty, pos := p, after := af, guard := none } r wq K := by
  obtain ⟨k, h1, h2', h3⟩ := h1
  obtain ⟨q, h4, h5⟩ := h2
  have h6 : (q : Int) < (n : Int) := by omega
  obtain ⟨x, hx, hp⟩ := hP q h5
  unfold OpV
  go_simp
  exact hK _ _ hR (Keep.refl _ _) ⟨k, q, x, rfl, h2', h3.lt, (h3.cell q).trans hx, hp⟩
theorem opv_index_i64 {n m : Nat} {cs : Array Value} {P : Value → Prop} (hm : m ≤ n) (hn : n ≤ 1000000) (hP : ∀ q, q < m → ∃ x, cs[q]? = some x ∧ P x)
    (h1 : (Fact.row (X := (· = g)) 3 n n cs).1 (r (.tmp t)) wq) (h2 : (Fact.lt (X := (· = g)) m).1 (r (.tmp u)) wq) (hR : DkR w B g wq) (hK : ∀ x w', DkR w B g w' → Keep (· = g) wq w' → (Fact.ptr (X := (· = g)) P).1 x w' → K x w') :
    OpV Try.prog { dst := d, op := .indexAddr 35 (.tmp t) (.tmp u), type := ty, pos := p, after := af, guard := none } r wq K := by
  obtain ⟨k, h1, h2', h3⟩ := h1
  obtain ⟨q, h4, h5⟩ := h2
  have h6 : (q : Int) < (n : Int) := by omega
  obtain ⟨x, hx, hp⟩ := hP q h5
  unfold OpV
  go_simp
  exact hK _ _ hR (Keep.refl _ _) ⟨k, q, x, rfl, h2', h3.lt, (h3.cell q).trans hx, hp⟩
theorem opv_load_u64 {P : Value → Prop} (hI : ∀ x, P x → ∃ n, x = .int .u64 n) (h1 : (Fact.ptr (X := (· = g)) P).1 (r (.tmp t)) wq) (hR : DkR w B g wq) (hK : ∀ x w', DkR w B g w' → Keep (· = g) wq w' → P x → K x w') :
    OpV Try.prog { dst := d, op := .load 30 (.tmp t), type := ty, pos := p, after := af, guard := none } r wq K := by
  obtain ⟨k, o, x, h1, h2, h3, h4, h5⟩ := h1
  obtain ⟨n, e⟩ := hI x h5
  subst e
  unfold OpV
  go_simp
  exact hK _ _ hR (Keep.refl _ _) h5
theorem opv_load_i64 {P : Value → Prop} (hI : ∀ x, P x → ∃ n, x = .int .i64 n) (h1 : (Fact.ptr (X := (· = g)) P).1 (r (.tmp t)) wq) (hR : DkR w B g wq) (hK : ∀ x w', DkR w B g w' → Keep (· = g) wq w' → P x → K x w') :
    OpV Try.prog { dst := d, op := .load 3 (.tmp t), type := ty, pos := p, after := af, guard := none } r wq K := by
  obtain ⟨k, o, x, h1, h2, h3, h4, h5⟩ := h1
  obtain ⟨n, e⟩ := hI x h5
  subst e
  unfold OpV
  go_simp
  exact hK _ _ hR (Keep.refl _ _) h5
/-- a row that was just made -/
theorem new_row {t : TypeId} {n : Nat} {cs : Array Value} (hR : DkR w B g wq) (hK : ∀ x w', DkR w B g w' → Keep (· = g) wq w' → (Fact.row (X := (· = g)) t n n cs).1 x w' → K x w') :
    K (.slice (some ⟨wq.heap.size, 0, none⟩) n n) (wq.alloc (.cells cs t)) :=
  hK _ _ (hR.alloc _) ((Keep.refl _ _).alloc _) ⟨wq.heap.size, rfl, by have := lt_deck hR; omega, Blk.new _ _ _⟩
end

def row4 : Array Value := #[.int .u64 0, .int .u64 1, .int .u64 18446744073709551615, .int .u64 9223372036854775808]
def isPk (x : Value) : Prop := ∃ q, x = .int .u64 (pk4 q)
def isA4 (x : Value) : Prop := ∃ q p, x = .agg #[.bool true, .int .u64 (pk4 q), .int .u64 (pk4 p)]
def caseA (g : Nat) : List (Fact (· = g)) :=
  [.row 30 4 4 row4, .is (.pointer (some ⟨g, 0, none⟩)), .lt 4, .ptr isPk, .val isPk,
   .row 30 4 4 row4, .is (.pointer (some ⟨g, 0, none⟩)), .lt 4, .ptr isPk, .val isPk, .val isA4]
theorem row4_at (q : Nat) (h : q < 4) : ∃ x, row4[q]? = some x ∧ isPk x := ⟨_, pk4_at h, q, rfl⟩
theorem isPk_int (x : Value) (h : isPk x) : ∃ n, x = .int .u64 n := by obtain ⟨q, e⟩ := h; exact ⟨_, e⟩

set_option maxHeartbeats 16000000 in
theorem daddr_any (B g : Nat) (w : World) (hd : DeckOk w B g) :
    Calls Try.prog 18 #[.pointer (some ⟨g, 0, none⟩)] w fun e w' =>
      ∃ (v6 : Bool) (hi lo : Int), e = .returned (addrV v6 hi lo) ∧ AddrOk v6 hi lo ∧ w.grownBy w' (some g) ∧ DeckOk w' B g := by
  have hg := hd.lt
  have fin : ∀ (wx : World) (a : Act), AddrEnd w B g w.heap.size wx → a.tmps.getD 2 undef = .pointer (some ⟨w.heap.size, 0, none⟩) → a.defers = [] →
      bodyPost Try.prog Try.f18 (fun e w' => ∃ (v6 : Bool) (hi lo : Int), e = .returned (addrV v6 hi lo) ∧ AddrOk v6 hi lo ∧ w.grownBy w' (some g) ∧ DeckOk w' B g) .ret a wx := by
    rintro wx a ⟨v6, hi, lo, hok, hb, hgr, hdk⟩ hs hdf
    exact bodyPost_ret (results_cell_row rfl _ _ w.heap.size _ #[.bool v6, .int .u64 hi, .int .u64 lo] (0, 0) _ hs hb Try.underlying32 rfl (by kernel_rfl)) hdf ⟨v6, hi, lo, rfl, hok, hgr, hdk⟩
  go_enter Try.func18, Try.ntmps18
  go_wp2_with fail
  refine (next_any B g _ _ (by omega) (by omega) (hd.alloc _)).mono ?_
  rintro e w1 ⟨r, rfl, hr, hg1, hz1, hd1⟩
  have hb1 := (Blk.new w _ _).grown hg1 (by simp; omega)
  have hgr1 : w.grownBy w1 (some g) := (World.grownBy_alloc w _ _).trans hg1
  clear hg1
  obtain rfl | rfl | rfl | rfl | rfl | rfl : r = 0 ∨ r = 1 ∨ r = 2 ∨ r = 3 ∨ r = 4 ∨ r = 5 := by omega
  · go_wp2_with fail
    refine (next_any B g _ _ (by omega) (by omega) hd1).mono ?_
    rintro e w2 ⟨q, rfl, hq, hg2, hz2, hd2⟩
    go_wp2_with fail
    refine (next_any B g _ _ (by omega) (by omega) hd2).mono ?_
    rintro e w3 ⟨p, rfl, hp, hg3, hz3, hd3⟩
    have hb3 := (hb1.grown hg2 (by simp; omega)).grown hg3 (by simp; omega)
    have k0 := hb3.cell 0
    have k1 := hb3.cell 1
    have k2 := hb3.cell 2
    have f0 := hb3.frozen 0
    have f1 := hb3.frozen 1
    have f2 := hb3.frozen 2
    go_wp2_with fail
    exact fin _ _ (addrEnd_mk false 0 (167772160 + (q : Int) * 256 + p) (by unfold AddrOk; omega) hb3 ((hgr1.trans hg2).trans hg3) hd3 hg (Nat.le_refl _)) rfl rfl
  · go_wp2_with fail
    refine (next_any B g _ _ (by omega) (by omega) hd1).mono ?_
    rintro e w2 ⟨q, rfl, hq, hg2, hz2, hd2⟩
    go_wp2_with fail
    refine (next_any B g _ _ (by omega) (by omega) hd2).mono ?_
    rintro e w3 ⟨p, rfl, hp, hg3, hz3, hd3⟩
    have hb3 := (hb1.grown hg2 (by simp; omega)).grown hg3 (by simp; omega)
    have k0 := hb3.cell 0
    have k1 := hb3.cell 1
    have k2 := hb3.cell 2
    have f0 := hb3.frozen 0
    have f1 := hb3.frozen 1
    have f2 := hb3.frozen 2
    go_wp2_with fail
    exact fin _ _ (addrEnd_mk true (2306139568115548160 + (q : Int)) p (addrOk6 (by omega) (by omega) (by omega) (by omega)) hb3 ((hgr1.trans hg2).trans hg3) hd3 hg (Nat.le_refl _)) rfl rfl
  · go_wp2_with fail
    refine (next_any B g _ _ (by omega) (by omega) (hd1.alloc _)).mono ?_
    rintro e w2 ⟨q, rfl, hq, hg2, hz2, hd2⟩
    have hb2 := (hb1.alloc _).grown hg2 (by simp; omega)
    have hL := (Blk.new w1 _ _).grown hg2 (by have := hgr1.size; simp; omega)
    have hcL := hL.cell q
    rw [pk5_at (by omega)] at hcL
    have k0 := hb2.cell 0
    have k1 := hb2.cell 1
    have k2 := hb2.cell 2
    have f0 := hb2.frozen 0
    have f1 := hb2.frozen 1
    have f2 := hb2.frozen 2
    clear hL
    go_wp2_with fail
    exact fin _ _ (addrEnd_mk false 0 (pk5 q) pk5_ok hb2 ((hgr1.trans (World.grownBy_alloc _ _ _)).trans hg2) hd2 hg (Nat.le_refl _)) rfl rfl
  · go_wp2_with fail
    go_cut [] (fun wx => AddrEnd w B g w.heap.size wx)
    case first =>
      clear fin
      have e1 := hz1.out
      simp only [World.size_alloc] at e1
      have hne : ¬ w.heap.size = g := by omega
      refine wp_region_facts (by kernel_rfl) 11 [some 36, some 37, some 38, some 39, some 40, some 41, some 42, some 43, some 44, some 45, some 46] rfl rfl (· = g) (caseA g) (DkR w1 B g) 70 (by kernel_rfl) (by kernel_rfl) (by kernel_rfl) (by kernel_rfl) (by kernel_rfl) rfl (by kernel_rfl) ?_ ?_ ?_
      · exact ⟨(Keep.refl _ _).drew, hd1.drew⟩
      · intro x wq hR hA
        obtain ⟨_, _, _, _, _, _, _, _, _, _, ⟨q, p, hx⟩, _⟩ := hA
        have hb2 := hb1.kept hR.1 hne
        have k0 := hb2.cell 0
        have k1 := hb2.cell 1
        have k2 := hb2.cell 2
        have f0 := hb2.frozen 0
        have f1 := hb2.frozen 1
        have f2 := hb2.frozen 2
        simp only [fillL, Nat.zero_add, Nat.reduceAdd, Act.put, List.setIfInBounds_toArray, List.set_cons_succ, List.set_cons_zero, List.drop_succ_cons, List.drop_zero, hx]
        clear hx
        go_wp2_with fail
        go_meet
        exact addrEnd_mk true _ _ pk4_ok hb2 (hgr1.trans hR.1.grown) hR.2 hg (Nat.le_refl _)
      · refine EachOp.cons ?_ (EachOp.cons ?_ (EachOp.cons ?_ (EachOp.cons ?_ (EachOp.cons ?_ (EachOp.cons ?_ (EachOp.cons ?_ (EachOp.cons ?_ (EachOp.cons ?_ (EachOp.cons ?_ (EachOp.cons ?_ EachOp.nil))))))))))
        all_goals (intro r wq hR hc hf ho hk K hK)
        · unfold OpV; go_simp; exact new_row hR hK
        · exact opv_deck (ho 0 rfl) hR hK
        · have h1 : r (.tmp 37) = .pointer (some ⟨g, 0, none⟩) := hk.1
          unfold OpV; go_simp; exact opv_next 4 (by omega) (by omega) hR hK
        · exact opv_index_u64 (by omega) (by omega) row4_at hk.1 hk.2.1 hR hK
        · exact opv_load_u64 isPk_int hk.1 hR hK
        · unfold OpV; go_simp; exact new_row hR hK
        · exact opv_deck (ho 0 rfl) hR hK
        · have h1 : r (.tmp 42) = .pointer (some ⟨g, 0, none⟩) := hk.1
          unfold OpV; go_simp; exact opv_next 4 (by omega) (by omega) hR hK
        · exact opv_index_u64 (by omega) (by omega) row4_at hk.1 hk.2.1 hR hK
        · exact opv_load_u64 isPk_int hk.1 hR hK
        · obtain ⟨q, h4⟩ := hk.1
          obtain ⟨p, h5⟩ := hk.2.1
          unfold OpV; go_simp; exact hK _ _ hR (Keep.refl _ _) ⟨q, p, rfl⟩
    case rest => (go_wp2_with fail; exact fin _ _ hcut rfl rfl)
  · go_wp2_with fail
    refine (next_any B g _ _ (by omega) (by omega) hd1).mono ?_
    rintro e w2 ⟨q, rfl, hq, hg2, hz2, hd2⟩
    go_wp2_with fail
    refine (next_any B g _ _ (by omega) (by omega) hd2).mono ?_
    rintro e w3 ⟨p, rfl, hp, hg3, hz3, hd3⟩
    go_wp2_with fail
    refine (next_any B g _ _ (by omega) (by omega) hd3).mono ?_
    rintro e w4 ⟨q2, rfl, hq2, hg4, hz4, hd4⟩
    go_wp2_with fail
    refine (next_any B g _ _ (by omega) (by omega) hd4).mono ?_
    rintro e w5 ⟨p2, rfl, hp2, hg5, hz5, hd5⟩
    have hb3 := (((hb1.grown hg2 (by simp; omega)).grown hg3 (by simp; omega)).grown hg4 (by simp; omega)).grown hg5 (by simp; omega)
    have k0 := hb3.cell 0
    have k1 := hb3.cell 1
    have k2 := hb3.cell 2
    have f0 := hb3.frozen 0
    have f1 := hb3.frozen 1
    have f2 := hb3.frozen 2
    go_wp2_with fail
    exact fin _ _ (addrEnd_mk true _ _ (addrOkW _ _) hb3 ((((hgr1.trans hg2).trans hg3).trans hg4).trans hg5) hd5 hg (Nat.le_refl _)) rfl rfl
  · go_wp2_with fail
    refine (next_any B g _ _ (by omega) (by omega) hd1).mono ?_
    rintro e w2 ⟨q, rfl, hq, hg2, hz2, hd2⟩
    have hb3 := hb1.grown hg2 (by simp; omega)
    have k0 := hb3.cell 0
    have k1 := hb3.cell 1
    have k2 := hb3.cell 2
    have f0 := hb3.frozen 0
    have f1 := hb3.frozen 1
    have f2 := hb3.frozen 2
    go_wp2_with fail
    exact fin _ _ (addrEnd_mk false 0 (q : Int) (by unfold AddrOk; omega) hb3 (hgr1.trans hg2) hd2 hg (Nat.le_refl _)) rfl rfl

end Go.Proofs.Ytcdfmgkcadpgbaa
