/-
  The greatest amount between two switches: both texts.
-/
import Derived.Test.YthbdngfnbpkefaaFu
import Derived.Test.YthbdngfnbpkefaaFv
namespace Go.Proofs.Ythbdngfnbpkefaa
open Go.RowKit

def flowF (f : Fab) (a b : Int) : Int := if a = b then 0 else if aliveB f a && aliveB f b then minCut f (wkF f) a.toNat b.toNat (2 ^ f.dead.length) else 0
/-- the links that work are ones that may be -/
def LinksOK (f : Fab) : Prop := ∀ i l, f.links[i]? = some l → wkF f i = true → LkOK 1048576 l
theorem bits_tab : ∀ s : Fin 256, ∀ a : Fin 8, bitV .and .i64 ((s.val : Int).fdiv (2 ^ (min a.val 64))) 1 = if s.val.testBit a.val then 1 else 0 := by decide +kernel
theorem bit_val {s : Nat} {x : Int} (hs : s < 256) (h0 : 0 ≤ x) (h1 : x < 8) : bitV .and .i64 ((s : Int).fdiv (2 ^ (min x.toNat IntKind.i64.bits))) 1 = if s.testBit x.toNat then 1 else 0 := by
  obtain ⟨k, rfl⟩ := Int.eq_ofNat_of_zero_le h0
  rw [Int.toNat_natCast]
  exact bits_tab ⟨s, hs⟩ ⟨k, by omega⟩
theorem shl_tab : ∀ n : Fin 9, IntKind.i64.wrap (1 * 2 ^ (min n.val 64)) = ((2 ^ n.val : Nat) : Int) := by decide +kernel
theorem bit0 (b : Bool) : ((if b = true then (1 : Int) else 0) == 0) = !b := by cases b <;> rfl
theorem bit1 (b : Bool) : ((if b = true then (1 : Int) else 0) == 1) = b := by cases b <;> rfl
theorem bitne (b c : Bool) : ((if b = true then (1 : Int) else 0) != (if c = true then (1 : Int) else 0)) = (b != c) := by cases b <;> cases c <;> rfl
def capK (f : Fab) (W χ : Nat → Bool) (k : Nat) : Int := ((List.range k).map (capI f W χ)).sum
theorem capK_succ (f : Fab) (W χ : Nat → Bool) (k : Nat) : capK f W χ (k + 1) = capK f W χ k + capI f W χ k := by
  unfold capK; rw [List.range_succ, List.map_append, List.sum_append]; simp
theorem capI_bd {f : Fab} (hL : LinksOK f) (χ : Nat → Bool) (i : Nat) : 0 ≤ capI f (wkF f) χ i ∧ capI f (wkF f) χ i ≤ 1048576 := by
  unfold capI
  cases hl : f.links[i]? with
  | none => simp
  | some l =>
    dsimp only
    cases hw : wkF f i
    · simp
    · have := hL i l hl hw
      have h1 := this.c1
      have h2 := this.cB
      split <;> omega
theorem capK_bd {f : Fab} (hL : LinksOK f) (χ : Nat → Bool) (k : Nat) : 0 ≤ capK f (wkF f) χ k ∧ capK f (wkF f) χ k ≤ k * 1048576 := by
  induction k with
  | zero => simp [capK]
  | succ k ih =>
    rw [capK_succ]
    have := capI_bd hL χ k
    omega
theorem cutStep_bd {f : Fab} (hL : LinksOK f) (h24 : f.links.length ≤ 24) (a b : Nat) (k : Nat) : -1 ≤ minCut f (wkF f) a b k ∧ minCut f (wkF f) a b k ≤ 24 * 1048576 := by
  induction k with
  | zero => exact ⟨Int.le_refl _, by show (-1 : Int) ≤ _; omega⟩
  | succ k ih =>
    rw [minCut_succ]
    unfold cutStep
    have := capK_bd hL k.testBit f.links.length
    have e : capC f (wkF f) k.testBit = capK f (wkF f) k.testBit f.links.length := rfl
    split
    · split <;> omega
    · exact ih

theorem flowX_any (f : Fab) (hf : FabS f) (hL : LinksOK f) (a b : Int) : AFn Try.prog 25 0 [.agg (fabC f), .base (.int .i64 a), .base (.int .i64 b)] mt (.base (.int .i64 (flowF f a b))) mt := by
  refine AFn.eq Try.func25 rfl rfl (Nat.le_of_ble_eq_true rfl) ?_
  have hdd := deadX_any f
  have hwk := worksX_any f
  obtain ⟨hsw, h8, h24⟩ := hf
  repeat (refine W.seq ?_)
  refine W.region 0 2 (by decide) rfl rfl ?_
  refine RW.opd rfl rfl (LO.box rfl rfl rfl) ?_
  refine RW.opd rfl rfl (LO.assign rfl rfl) ?_
  refine RW.nil ?_
  by_cases hab : a = b
  · have g1 : (a == b) = true := by simpa using hab
    have hv : flowF f a b = 0 := by unfold flowF; rw [if_pos hab]
    repeat (refine W.seq ?_)
    refine W.region 6 19 (by decide) rfl rfl ?_
    refine RW.opd rfl rfl (LO.move rfl rfl) ?_
    refine RW.opd rfl rfl (LO.move rfl rfl) ?_
    refine RW.opd rfl rfl (LO.eql rfl rfl rfl) ?_
    refine RW.opd rfl rfl (LO.move rfl rfl) ?_
    refine RW.sd rfl rfl rfl ?_ rfl ?_; (· (first | rfl | assumption))
    refine RW.sd rfl rfl rfl ?_ rfl ?_; (· (first | rfl | assumption))
    refine RW.sd rfl rfl rfl ?_ rfl ?_; (· (first | rfl | assumption))
    refine RW.opd rfl rfl (LO.pick_t rfl rfl ?_ rfl) ?_; (· (first | rfl | assumption))
    refine RW.opd rfl rfl (LO.move rfl rfl) ?_
    refine RW.sd rfl rfl rfl ?_ rfl ?_; (· (first | rfl | assumption))
    refine RW.sd rfl rfl rfl ?_ rfl ?_; (· (first | rfl | assumption))
    refine RW.sd rfl rfl rfl ?_ rfl ?_; (· (first | rfl | assumption))
    refine RW.opd rfl rfl (LO.pick_t rfl rfl ?_ rfl) ?_; (· (first | rfl | assumption))
    refine RW.nil ?_
    repeat (refine W.seq ?_)
    refine W.cond_t rfl (by first | rfl | assumption) ?_
    repeat (refine W.seq ?_)
    refine W.region 23 24 (by decide) rfl rfl ?_
    refine RW.opd rfl rfl (LO.assign rfl rfl) ?_
    refine RW.nil ?_
    repeat (refine W.seq ?_)
    refine W.ret ⟨.inl rfl, _, mt, RVs.cons (RV.tmp rfl) (RVs.nil), all_mt, ?_⟩
    exact ⟨by rw [hv]; rfl, rfl⟩
  · have g1 : (a == b) = false := by simpa using hab
    cases ha : aliveB f a with
    | false =>
      have g2 : (!aliveB f a) = true := by rw [ha]; rfl
      have hv : flowF f a b = 0 := by unfold flowF; rw [if_neg hab, ha]; rfl
      repeat (refine W.seq ?_)
      refine W.region 6 19 (by decide) rfl rfl ?_
      refine RW.opd rfl rfl (LO.move rfl rfl) ?_
      refine RW.opd rfl rfl (LO.move rfl rfl) ?_
      refine RW.opd rfl rfl (LO.eql rfl rfl rfl) ?_
      refine RW.opd rfl rfl (LO.move rfl rfl) ?_
      refine RW.gd rfl rfl rfl ?_ rfl (LO.load_agg rfl rfl rfl ty25 rfl (Tk.lit rfl)) ?_; (· (first | rfl | assumption))
      refine RW.gd rfl rfl rfl ?_ rfl (LO.move rfl rfl) ?_; (· (first | rfl | assumption))
      refine RW.gd rfl rfl rfl ?_ rfl (LO.call0 (fr := []) rfl rfl (hdd _) fok45 (.cons rfl (.pure rfl) (.cons rfl (.pure rfl) .nil)) rfl) ?_; (· (first | rfl | assumption))
      refine RW.opd rfl rfl (LO.pick_f rfl rfl ?_ rfl) ?_; (· (first | rfl | assumption))
      refine RW.opd rfl rfl (LO.move rfl rfl) ?_
      refine RW.sd rfl rfl rfl ?_ rfl ?_; (· (first | rfl | assumption))
      refine RW.sd rfl rfl rfl ?_ rfl ?_; (· (first | rfl | assumption))
      refine RW.sd rfl rfl rfl ?_ rfl ?_; (· (first | rfl | assumption))
      refine RW.opd rfl rfl (LO.pick_t rfl rfl ?_ rfl) ?_; (· (first | rfl | assumption))
      refine RW.nil ?_
      repeat (refine W.seq ?_)
      refine W.cond_t rfl (by first | rfl | assumption) ?_
      repeat (refine W.seq ?_)
      refine W.region 23 24 (by decide) rfl rfl ?_
      refine RW.opd rfl rfl (LO.assign rfl rfl) ?_
      refine RW.nil ?_
      repeat (refine W.seq ?_)
      refine W.ret ⟨.inl rfl, _, mt, RVs.cons (RV.tmp rfl) (RVs.nil), all_mt, ?_⟩
      exact ⟨by rw [hv]; rfl, rfl⟩
    | true =>
      have g2 : (!aliveB f a) = false := by rw [ha]; rfl
      cases hb : aliveB f b with
      | false =>
        have g3 : (!aliveB f b) = true := by rw [hb]; rfl
        have hv : flowF f a b = 0 := by unfold flowF; rw [if_neg hab, hb, Bool.and_false]; rfl
        repeat (refine W.seq ?_)
        refine W.region 6 19 (by decide) rfl rfl ?_
        refine RW.opd rfl rfl (LO.move rfl rfl) ?_
        refine RW.opd rfl rfl (LO.move rfl rfl) ?_
        refine RW.opd rfl rfl (LO.eql rfl rfl rfl) ?_
        refine RW.opd rfl rfl (LO.move rfl rfl) ?_
        refine RW.gd rfl rfl rfl ?_ rfl (LO.load_agg rfl rfl rfl ty25 rfl (Tk.lit rfl)) ?_; (· (first | rfl | assumption))
        refine RW.gd rfl rfl rfl ?_ rfl (LO.move rfl rfl) ?_; (· (first | rfl | assumption))
        refine RW.gd rfl rfl rfl ?_ rfl (LO.call0 (fr := []) rfl rfl (hdd _) fok45 (.cons rfl (.pure rfl) (.cons rfl (.pure rfl) .nil)) rfl) ?_; (· (first | rfl | assumption))
        refine RW.opd rfl rfl (LO.pick_f rfl rfl ?_ rfl) ?_; (· (first | rfl | assumption))
        refine RW.opd rfl rfl (LO.move rfl rfl) ?_
        refine RW.gd rfl rfl rfl ?_ rfl (LO.load_agg rfl rfl rfl ty25 rfl (Tk.lit rfl)) ?_; (· (first | rfl | assumption))
        refine RW.gd rfl rfl rfl ?_ rfl (LO.move rfl rfl) ?_; (· (first | rfl | assumption))
        refine RW.gd rfl rfl rfl ?_ rfl (LO.call0 (fr := []) rfl rfl (hdd _) fok45 (.cons rfl (.pure rfl) (.cons rfl (.pure rfl) .nil)) rfl) ?_; (· (first | rfl | assumption))
        refine RW.opd rfl rfl (LO.pick_f rfl rfl ?_ rfl) ?_; (· (first | rfl | assumption))
        refine RW.nil ?_
        repeat (refine W.seq ?_)
        refine W.cond_t rfl (by first | rfl | assumption) ?_
        repeat (refine W.seq ?_)
        refine W.region 23 24 (by decide) rfl rfl ?_
        refine RW.opd rfl rfl (LO.assign rfl rfl) ?_
        refine RW.nil ?_
        repeat (refine W.seq ?_)
        refine W.ret ⟨.inl rfl, _, mt, RVs.cons (RV.tmp rfl) (RVs.nil), all_mt, ?_⟩
        exact ⟨by rw [hv]; rfl, rfl⟩
      | true =>
        have g3 : (!aliveB f b) = false := by rw [hb]; rfl
        have hv : flowF f a b = minCut f (wkF f) a.toNat b.toNat (2 ^ f.dead.length) := by unfold flowF; rw [if_neg hab, ha, hb]; rfl
        obtain ⟨a0, a1⟩ := aliveB_lt ha
        obtain ⟨b0, b1⟩ := aliveB_lt hb
        repeat (refine W.seq ?_)
        refine W.region 6 19 (by decide) rfl rfl ?_
        refine RW.opd rfl rfl (LO.move rfl rfl) ?_
        refine RW.opd rfl rfl (LO.move rfl rfl) ?_
        refine RW.opd rfl rfl (LO.eql rfl rfl rfl) ?_
        refine RW.opd rfl rfl (LO.move rfl rfl) ?_
        refine RW.gd rfl rfl rfl ?_ rfl (LO.load_agg rfl rfl rfl ty25 rfl (Tk.lit rfl)) ?_; (· (first | rfl | assumption))
        refine RW.gd rfl rfl rfl ?_ rfl (LO.move rfl rfl) ?_; (· (first | rfl | assumption))
        refine RW.gd rfl rfl rfl ?_ rfl (LO.call0 (fr := []) rfl rfl (hdd _) fok45 (.cons rfl (.pure rfl) (.cons rfl (.pure rfl) .nil)) rfl) ?_; (· (first | rfl | assumption))
        refine RW.opd rfl rfl (LO.pick_f rfl rfl ?_ rfl) ?_; (· (first | rfl | assumption))
        refine RW.opd rfl rfl (LO.move rfl rfl) ?_
        refine RW.gd rfl rfl rfl ?_ rfl (LO.load_agg rfl rfl rfl ty25 rfl (Tk.lit rfl)) ?_; (· (first | rfl | assumption))
        refine RW.gd rfl rfl rfl ?_ rfl (LO.move rfl rfl) ?_; (· (first | rfl | assumption))
        refine RW.gd rfl rfl rfl ?_ rfl (LO.call0 (fr := []) rfl rfl (hdd _) fok45 (.cons rfl (.pure rfl) (.cons rfl (.pure rfl) .nil)) rfl) ?_; (· (first | rfl | assumption))
        refine RW.opd rfl rfl (LO.pick_f rfl rfl ?_ rfl) ?_; (· (first | rfl | assumption))
        refine RW.nil ?_
        repeat (refine W.seq ?_)
        refine W.cond_f rfl (by first | rfl | assumption) ?_
        refine W.skip ?_
        repeat (refine W.seq ?_)
        refine W.region 28 29 (by decide) rfl rfl ?_
        refine RW.opd rfl rfl (LO.assign rfl rfl) ?_
        refine RW.nil ?_
        have hpow : (2 : Nat) ^ f.dead.length ≤ 256 := Nat.le_trans (Nat.pow_le_pow_right (n := 2) (by decide) h8) (by decide)
        have hsh : IntKind.i64.wrap (1 * 2 ^ (min f.sw.toNat IntKind.i64.bits)) = ((2 ^ f.dead.length : Nat) : Int) := by
          rw [hsw, Int.toNat_natCast]; exact shl_tab ⟨f.dead.length, by omega⟩
        repeat (refine W.seq ?_)
        refine W.region 33 38 (by decide) rfl rfl ?_
        refine RW.opd rfl rfl (LO.fieldAddr rfl rfl ty25 rfl (by decide)) ?_
        refine RW.opd rfl rfl (LO.load rfl rfl rfl rfl ty3 rfl) ?_
        refine RW.opd rfl rfl (LO.conv_in rfl rfl ty3 ty70 ?_) ?_; (· (first | exact IntWalk.u64_in _ (by omega) | assumption))
        refine RW.opd rfl rfl (LO.shl rfl rfl rfl ?_) ?_; (· (first | omega | decide | assumption | fail | (simp; done) | (simp; omega)))
        refine RW.opd rfl rfl (LO.move rfl rfl) ?_
        refine RW.nil ?_
        rw [hsh]
        obtain ⟨N, hN⟩ : ∃ N, 2 ^ f.dead.length = N := ⟨_, rfl⟩
        rw [hN] at hpow hv ⊢
        repeat (refine W.seq ?_)
        refine W.block ?_
        refine W.rename [(0, 0)] 1 (T' := up (up (up (up (up (up mt 1 (some (.base (.int .i64 a)))) 2 (some (.base (.int .i64 b)))) 3 (some (.own 0 0))) 7 (some (.base (.int .i64 ((-1)))))) 28 (some (.base (.int .i64 (N : Int))))) 29 (some (.base (.int .i64 (0 : Int))))) (H' := up mt 0 (some (fabC f))) (by decide) ?_ ?_ ?_
        · (repeat' (first | exact all_mt | refine all_up ?_ ?_)) <;> first | exact .inl ⟨rfl, rfl⟩ | exact .inr ⟨rfl, fun _ h => by cases h⟩ | exact .inl ⟨rfl, by first | rfl | assumption ⟩
        · (repeat' (first | exact all_mt | refine all_up ?_ ?_)) <;> first | exact ⟨rfl, _, rfl, .inr ⟨rfl, rfl⟩⟩ | exact ⟨rfl, _, rfl, .inl rfl⟩ | exact ⟨rfl, _, rfl, .inr ⟨rfl, by first | rfl | assumption ⟩⟩
        refine W.loop_ind (α := Nat × Int) (fun x => N - x.1) 1 (fun x => up (up (up (up (up (up mt 1 (some (.base (.int .i64 a)))) 2 (some (.base (.int .i64 b)))) 3 (some (.own 0 0))) 7 (some (.base (.int .i64 x.2)))) 28 (some (.base (.int .i64 (N : Int))))) 29 (some (.base (.int .i64 (x.1 : Int))))) (fun x => up mt 0 (some (fabC f))) (fun x => x.1 ≤ N ∧ x.2 = minCut f (wkF f) a.toNat b.toNat x.1) (0, ((-1))) (show 0 ≤ N ∧ ((-1)) = minCut f (wkF f) a.toNat b.toNat 0 from ⟨Nat.zero_le _, rfl⟩) ?_
        rintro ⟨s, m⟩ hIA ihA
        try (dsimp only at hIA)
        try dsimp only
        obtain ⟨hs, hm⟩ := hIA
        by_cases hc : s < N
        · have g4 : decide ((s : Int) < (N : Int)) = true := decide_eq_true (by omega)
          have hnx := minCut_succ f (wkF f) a.toNat b.toNat s
          rw [← hm] at hnx
          unfold cutStep at hnx
          have hba := bit_val (show s < 256 by omega) a0 (by omega)
          have hbb := bit_val (show s < 256 by omega) b0 (by omega)
          repeat (refine W.seq ?_)
          refine W.region 42 43 (by decide) rfl rfl ?_
          refine RW.opd rfl rfl (LO.lss rfl rfl rfl) ?_
          refine RW.nil ?_
          repeat (refine W.seq ?_)
          refine W.cond_t rfl (by first | rfl | assumption) ?_
          refine W.skip ?_
          repeat (refine W.seq ?_)
          refine W.block ?_
          repeat (refine W.seq ?_)
          refine W.region 47 49 (by decide) rfl rfl ?_
          refine RW.opd rfl rfl (LO.move rfl rfl) ?_
          refine RW.opd rfl rfl (LO.assign rfl rfl) ?_
          refine RW.nil ?_
          cases ta : s.testBit a.toNat with
          | false =>
            have g5 : (bitV .and .i64 ((s : Int).fdiv (2 ^ (min a.toNat IntKind.i64.bits))) 1 == 0) = true := by rw [hba, ta]; rfl
            rw [ta] at hnx
            repeat (refine W.seq ?_)
            refine W.region 53 67 (by decide) rfl rfl ?_
            refine RW.opd rfl rfl (LO.move rfl rfl) ?_
            refine RW.opd rfl rfl (LO.move rfl rfl) ?_
            refine RW.opd rfl rfl (LO.conv_in rfl rfl ty3 ty70 ?_) ?_; (· (first | exact IntWalk.u64_in _ (by omega) | assumption))
            refine RW.opd rfl rfl (LO.shr rfl rfl rfl ?_) ?_; (· (first | omega | decide | assumption | fail | (simp; done) | (simp; omega)))
            refine RW.opd rfl rfl (LO.and rfl rfl rfl) ?_
            refine RW.opd rfl rfl (LO.eql rfl rfl rfl) ?_
            refine RW.opd rfl rfl (LO.move rfl rfl) ?_
            refine RW.sd rfl rfl rfl ?_ rfl ?_; (· (first | rfl | assumption))
            refine RW.sd rfl rfl rfl ?_ rfl ?_; (· (first | rfl | assumption))
            refine RW.sd rfl rfl rfl ?_ rfl ?_; (· (first | rfl | assumption))
            refine RW.sd rfl rfl rfl ?_ rfl ?_; (· (first | rfl | assumption))
            refine RW.sd rfl rfl rfl ?_ rfl ?_; (· (first | rfl | assumption))
            refine RW.sd rfl rfl rfl ?_ rfl ?_; (· (first | rfl | assumption))
            refine RW.opd rfl rfl (LO.pick_t rfl rfl ?_ rfl) ?_; (· (first | rfl | assumption))
            refine RW.nil ?_
            repeat (refine W.seq ?_)
            refine W.cond_t rfl (by first | rfl | assumption) ?_
            refine W.exit ?_
            repeat (refine W.seq ?_)
            refine W.region 153 155 (by decide) rfl rfl ?_
            refine RW.opd rfl rfl (LO.add_in rfl rfl rfl ?_) ?_; (· (first | exact IntWalk.i64_in _ (by omega) | assumption))
            refine RW.opd rfl rfl (LO.move rfl rfl) ?_
            refine RW.nil ?_
            refine WL.rename [(0, 0)] 1 (by decide) ?_ ?_ (ihA ((s + 1), m) (show N - (s + 1) < N - s from by omega) (show (s + 1) ≤ N ∧ m = minCut f (wkF f) a.toNat b.toNat (s + 1) from ⟨by omega, hnx.symm⟩))
            · (repeat' (first | exact all_mt | refine all_up ?_ ?_)) <;> first | exact .inl ⟨rfl, rfl⟩ | exact .inr ⟨rfl, fun _ h => by cases h⟩ | exact .inl ⟨rfl, by first | rfl | assumption ⟩
            · (repeat' (first | exact all_mt | refine all_up ?_ ?_)) <;> first | exact ⟨rfl, _, rfl, .inr ⟨rfl, rfl⟩⟩ | exact ⟨rfl, _, rfl, .inl rfl⟩ | exact ⟨rfl, _, rfl, .inr ⟨rfl, by first | rfl | assumption ⟩⟩
          | true =>
            have g5 : (bitV .and .i64 ((s : Int).fdiv (2 ^ (min a.toNat IntKind.i64.bits))) 1 == 0) = false := by rw [hba, ta]; rfl
            cases tb : s.testBit b.toNat with
            | true =>
              have g6 : (bitV .and .i64 ((s : Int).fdiv (2 ^ (min b.toNat IntKind.i64.bits))) 1 == 1) = true := by rw [hbb, tb]; rfl
              rw [ta, tb] at hnx
              repeat (refine W.seq ?_)
              refine W.region 53 67 (by decide) rfl rfl ?_
              refine RW.opd rfl rfl (LO.move rfl rfl) ?_
              refine RW.opd rfl rfl (LO.move rfl rfl) ?_
              refine RW.opd rfl rfl (LO.conv_in rfl rfl ty3 ty70 ?_) ?_; (· (first | exact IntWalk.u64_in _ (by omega) | assumption))
              refine RW.opd rfl rfl (LO.shr rfl rfl rfl ?_) ?_; (· (first | omega | decide | assumption | fail | (simp; done) | (simp; omega)))
              refine RW.opd rfl rfl (LO.and rfl rfl rfl) ?_
              refine RW.opd rfl rfl (LO.eql rfl rfl rfl) ?_
              refine RW.opd rfl rfl (LO.move rfl rfl) ?_
              refine RW.gd rfl rfl rfl ?_ rfl (LO.move rfl rfl) ?_; (· (first | rfl | assumption))
              refine RW.gd rfl rfl rfl ?_ rfl (LO.move rfl rfl) ?_; (· (first | rfl | assumption))
              refine RW.gd rfl rfl rfl ?_ rfl (LO.conv_in rfl rfl ty3 ty70 ?_) ?_; (· (first | rfl | assumption)); (· (first | exact IntWalk.u64_in _ (by omega) | assumption))
              refine RW.gd rfl rfl rfl ?_ rfl (LO.shr rfl rfl rfl ?_) ?_; (· (first | rfl | assumption)); (· (first | omega | decide | assumption | fail | (simp; done) | (simp; omega)))
              refine RW.gd rfl rfl rfl ?_ rfl (LO.and rfl rfl rfl) ?_; (· (first | rfl | assumption))
              refine RW.gd rfl rfl rfl ?_ rfl (LO.eql rfl rfl rfl) ?_; (· (first | rfl | assumption))
              refine RW.opd rfl rfl (LO.pick_f rfl rfl ?_ rfl) ?_; (· (first | rfl | assumption))
              refine RW.nil ?_
              repeat (refine W.seq ?_)
              refine W.cond_t rfl (by first | rfl | assumption) ?_
              refine W.exit ?_
              repeat (refine W.seq ?_)
              refine W.region 153 155 (by decide) rfl rfl ?_
              refine RW.opd rfl rfl (LO.add_in rfl rfl rfl ?_) ?_; (· (first | exact IntWalk.i64_in _ (by omega) | assumption))
              refine RW.opd rfl rfl (LO.move rfl rfl) ?_
              refine RW.nil ?_
              refine WL.rename [(0, 0)] 1 (by decide) ?_ ?_ (ihA ((s + 1), m) (show N - (s + 1) < N - s from by omega) (show (s + 1) ≤ N ∧ m = minCut f (wkF f) a.toNat b.toNat (s + 1) from ⟨by omega, hnx.symm⟩))
              · (repeat' (first | exact all_mt | refine all_up ?_ ?_)) <;> first | exact .inl ⟨rfl, rfl⟩ | exact .inr ⟨rfl, fun _ h => by cases h⟩ | exact .inl ⟨rfl, by first | rfl | assumption ⟩
              · (repeat' (first | exact all_mt | refine all_up ?_ ?_)) <;> first | exact ⟨rfl, _, rfl, .inr ⟨rfl, rfl⟩⟩ | exact ⟨rfl, _, rfl, .inl rfl⟩ | exact ⟨rfl, _, rfl, .inr ⟨rfl, by first | rfl | assumption ⟩⟩
            | false =>
              have g6 : (bitV .and .i64 ((s : Int).fdiv (2 ^ (min b.toNat IntKind.i64.bits))) 1 == 1) = false := by rw [hbb, tb]; rfl
              rw [ta, tb] at hnx
              repeat (refine W.seq ?_)
              refine W.region 53 67 (by decide) rfl rfl ?_
              refine RW.opd rfl rfl (LO.move rfl rfl) ?_
              refine RW.opd rfl rfl (LO.move rfl rfl) ?_
              refine RW.opd rfl rfl (LO.conv_in rfl rfl ty3 ty70 ?_) ?_; (· (first | exact IntWalk.u64_in _ (by omega) | assumption))
              refine RW.opd rfl rfl (LO.shr rfl rfl rfl ?_) ?_; (· (first | omega | decide | assumption | fail | (simp; done) | (simp; omega)))
              refine RW.opd rfl rfl (LO.and rfl rfl rfl) ?_
              refine RW.opd rfl rfl (LO.eql rfl rfl rfl) ?_
              refine RW.opd rfl rfl (LO.move rfl rfl) ?_
              refine RW.gd rfl rfl rfl ?_ rfl (LO.move rfl rfl) ?_; (· (first | rfl | assumption))
              refine RW.gd rfl rfl rfl ?_ rfl (LO.move rfl rfl) ?_; (· (first | rfl | assumption))
              refine RW.gd rfl rfl rfl ?_ rfl (LO.conv_in rfl rfl ty3 ty70 ?_) ?_; (· (first | rfl | assumption)); (· (first | exact IntWalk.u64_in _ (by omega) | assumption))
              refine RW.gd rfl rfl rfl ?_ rfl (LO.shr rfl rfl rfl ?_) ?_; (· (first | rfl | assumption)); (· (first | omega | decide | assumption | fail | (simp; done) | (simp; omega)))
              refine RW.gd rfl rfl rfl ?_ rfl (LO.and rfl rfl rfl) ?_; (· (first | rfl | assumption))
              refine RW.gd rfl rfl rfl ?_ rfl (LO.eql rfl rfl rfl) ?_; (· (first | rfl | assumption))
              refine RW.opd rfl rfl (LO.pick_f rfl rfl ?_ rfl) ?_; (· (first | rfl | assumption))
              refine RW.nil ?_
              repeat (refine W.seq ?_)
              refine W.cond_f rfl (by first | rfl | assumption) ?_
              refine W.skip ?_
              repeat (refine W.seq ?_)
              refine W.region 71 72 (by decide) rfl rfl ?_
              refine RW.opd rfl rfl (LO.assign rfl rfl) ?_
              refine RW.nil ?_
              repeat (refine W.seq ?_)
              refine W.region 76 80 (by decide) rfl rfl ?_
              refine RW.opd rfl rfl (LO.fieldAddr rfl rfl ty25 rfl (by decide)) ?_
              refine RW.opd rfl rfl (LO.load rfl rfl rfl rfl ty22 rfl) ?_
              refine RW.opd rfl rfl (LO.len_isl rfl rfl rfl ty22) ?_
              refine RW.opd rfl rfl (LO.move rfl rfl) ?_
              refine RW.nil ?_
              repeat (refine W.seq ?_)
              refine W.block ?_
              refine W.rename [(0, 0)] 1 (T' := up (up (up (up (up (up (up (up (up (up (up mt 1 (some (.base (.int .i64 a)))) 2 (some (.base (.int .i64 b)))) 3 (some (.own 0 0))) 7 (some (.base (.int .i64 m)))) 8 (some (.base (.int .i64 (s : Int))))) 9 (some (.base (.int .i64 0)))) 28 (some (.base (.int .i64 (N : Int))))) 29 (some (.base (.int .i64 (s : Int))))) 47 (some (.isl (lnksC f.links) f.links.length))) 48 (some (.base (.int .i64 (f.links.length : Int))))) 49 (some (.base (.int .i64 (0 : Int))))) (H' := up mt 0 (some (fabC f))) (by decide) ?_ ?_ ?_
              · (repeat' (first | exact all_mt | refine all_up ?_ ?_)) <;> first | exact .inl ⟨rfl, rfl⟩ | exact .inr ⟨rfl, fun _ h => by cases h⟩ | exact .inl ⟨rfl, by first | rfl | assumption ⟩
              · (repeat' (first | exact all_mt | refine all_up ?_ ?_)) <;> first | exact ⟨rfl, _, rfl, .inr ⟨rfl, rfl⟩⟩ | exact ⟨rfl, _, rfl, .inl rfl⟩ | exact ⟨rfl, _, rfl, .inr ⟨rfl, by first | rfl | assumption ⟩⟩
              refine W.loop_ind (α := Nat × Int) (fun x => f.links.length - x.1) 1 (fun x => up (up (up (up (up (up (up (up (up (up (up mt 1 (some (.base (.int .i64 a)))) 2 (some (.base (.int .i64 b)))) 3 (some (.own 0 0))) 7 (some (.base (.int .i64 m)))) 8 (some (.base (.int .i64 (s : Int))))) 9 (some (.base (.int .i64 x.2)))) 28 (some (.base (.int .i64 (N : Int))))) 29 (some (.base (.int .i64 (s : Int))))) 47 (some (.isl (lnksC f.links) f.links.length))) 48 (some (.base (.int .i64 (f.links.length : Int))))) 49 (some (.base (.int .i64 (x.1 : Int))))) (fun x => up mt 0 (some (fabC f))) (fun x => x.1 ≤ f.links.length ∧ x.2 = capK f (wkF f) s.testBit x.1) (0, 0) (show 0 ≤ f.links.length ∧ 0 = capK f (wkF f) s.testBit 0 from ⟨Nat.zero_le _, rfl⟩) ?_
              rintro ⟨i, n⟩ hIB ihB
              try (dsimp only at hIB)
              try dsimp only
              obtain ⟨hi, hn⟩ := hIB
              by_cases hc2 : i < f.links.length
              · have g7 : decide ((i : Int) < (f.links.length : Int)) = true := decide_eq_true (by omega)
                have hl : f.links[i]? = some f.links[i] := by simp [hc2]
                have hnn := capK_succ f (wkF f) s.testBit i
                rw [← hn] at hnn
                have hbd := capK_bd hL s.testBit i
                rw [← hn] at hbd
                unfold capI at hnn
                rw [hl] at hnn
                dsimp only at hnn
                repeat (refine W.seq ?_)
                refine W.region 84 85 (by decide) rfl rfl ?_
                refine RW.opd rfl rfl (LO.lss rfl rfl rfl) ?_
                refine RW.nil ?_
                repeat (refine W.seq ?_)
                refine W.cond_t rfl (by first | rfl | assumption) ?_
                refine W.skip ?_
                repeat (refine W.seq ?_)
                refine W.block ?_
                repeat (refine W.seq ?_)
                refine W.region 89 95 (by decide) rfl rfl ?_
                refine RW.opd rfl rfl (LO.move rfl rfl) ?_
                refine RW.opd rfl rfl (LO.indexAddr_isl rfl rfl rfl rfl rfl ty22 ty54 ?_) ?_; (· (first | omega | decide | assumption | fail | (simp; done) | (simp; omega)))
                refine RW.opd rfl rfl (LO.load_imm_agg rfl rfl ty54 rfl (lnksC_tk hc2)) ?_
                refine RW.opd rfl rfl (LO.alloc rfl ty54) ?_
                refine RW.opd rfl rfl (LO.assign rfl rfl) ?_
                refine RW.opn rfl rfl (LO.store rfl rfl rfl rfl rfl ty54 rfl (by decide) (Sp.lit rfl)) ?_
                refine RW.nil ?_
                cases hwi : worksB f i with
                | false =>
                  rw [show wkF f i = false from hwi] at hnn
                  repeat (refine W.seq ?_)
                  refine W.region 99 117 (by decide) rfl rfl ?_
                  refine RW.opd rfl rfl (LO.load_agg rfl rfl rfl ty25 rfl (Tk.lit rfl)) ?_
                  refine RW.opd rfl rfl (LO.move rfl rfl) ?_
                  refine RW.opd rfl rfl (LO.call0 (fr := []) rfl rfl (hwk _) fok23 (.cons rfl (.pure rfl) (.cons rfl (.pure rfl) .nil)) rfl) ?_
                  refine RW.opd rfl rfl (LO.move rfl rfl) ?_
                  refine RW.sd rfl rfl rfl ?_ rfl ?_; (· (first | rfl | assumption))
                  refine RW.sd rfl rfl rfl ?_ rfl ?_; (· (first | rfl | assumption))
                  refine RW.sd rfl rfl rfl ?_ rfl ?_; (· (first | rfl | assumption))
                  refine RW.sd rfl rfl rfl ?_ rfl ?_; (· (first | rfl | assumption))
                  refine RW.sd rfl rfl rfl ?_ rfl ?_; (· (first | rfl | assumption))
                  refine RW.sd rfl rfl rfl ?_ rfl ?_; (· (first | rfl | assumption))
                  refine RW.sd rfl rfl rfl ?_ rfl ?_; (· (first | rfl | assumption))
                  refine RW.sd rfl rfl rfl ?_ rfl ?_; (· (first | rfl | assumption))
                  refine RW.sd rfl rfl rfl ?_ rfl ?_; (· (first | rfl | assumption))
                  refine RW.sd rfl rfl rfl ?_ rfl ?_; (· (first | rfl | assumption))
                  refine RW.sd rfl rfl rfl ?_ rfl ?_; (· (first | rfl | assumption))
                  refine RW.sd rfl rfl rfl ?_ rfl ?_; (· (first | rfl | assumption))
                  refine RW.sd rfl rfl rfl ?_ rfl ?_; (· (first | rfl | assumption))
                  refine RW.opd rfl rfl (LO.pick_f rfl rfl ?_ rfl) ?_; (· (first | rfl | assumption))
                  refine RW.nil ?_
                  repeat (refine W.seq ?_)
                  refine W.cond_f rfl (by first | rfl | assumption) ?_
                  refine W.skip ?_
                  repeat (refine W.seq ?_)
                  refine W.region 130 132 (by decide) rfl rfl ?_
                  refine RW.opd rfl rfl (LO.add_in rfl rfl rfl ?_) ?_; (· (first | exact IntWalk.i64_in _ (by omega) | assumption))
                  refine RW.opd rfl rfl (LO.move rfl rfl) ?_
                  refine RW.nil ?_
                  refine WL.rename [(0, 0)] 1 (by decide) ?_ ?_ (ihB ((i + 1), n) (show f.links.length - (i + 1) < f.links.length - i from by omega) (show (i + 1) ≤ f.links.length ∧ n = capK f (wkF f) s.testBit (i + 1) from ⟨by omega, by rw [hnn]; simp⟩))
                  · (repeat' (first | exact all_mt | refine all_up ?_ ?_)) <;> first | exact .inl ⟨rfl, rfl⟩ | exact .inr ⟨rfl, fun _ h => by cases h⟩ | exact .inl ⟨rfl, by first | rfl | assumption ⟩
                  · (repeat' (first | exact all_mt | refine all_up ?_ ?_)) <;> first | exact ⟨rfl, _, rfl, .inr ⟨rfl, rfl⟩⟩ | exact ⟨rfl, _, rfl, .inl rfl⟩ | exact ⟨rfl, _, rfl, .inr ⟨rfl, by first | rfl | assumption ⟩⟩
                | true =>
                  rw [show wkF f i = true from hwi, Bool.true_and] at hnn
                  obtain ⟨x1, x2, x3, x4⟩ := wkF_wf f i _ hl hwi
                  have hlk := hL i _ hl hwi
                  have hc1 := hlk.c1
                  have hcB := hlk.cB
                  have hla := bit_val (show s < 256 by omega) x1 (by omega)
                  have hlb := bit_val (show s < 256 by omega) x3 (by omega)
                  cases tc : (s.testBit f.links[i].a.toNat != s.testBit f.links[i].b.toNat) with
                  | true =>
                    have g8 : (bitV .and .i64 ((s : Int).fdiv (2 ^ (min f.links[i].a.toNat IntKind.i64.bits))) 1 != bitV .and .i64 ((s : Int).fdiv (2 ^ (min f.links[i].b.toNat IntKind.i64.bits))) 1) = true := by rw [hla, hlb, bitne]; exact tc
                    rw [tc] at hnn
                    repeat (refine W.seq ?_)
                    refine W.region 99 117 (by decide) rfl rfl ?_
                    refine RW.opd rfl rfl (LO.load_agg rfl rfl rfl ty25 rfl (Tk.lit rfl)) ?_
                    refine RW.opd rfl rfl (LO.move rfl rfl) ?_
                    refine RW.opd rfl rfl (LO.call0 (fr := []) rfl rfl (hwk _) fok23 (.cons rfl (.pure rfl) (.cons rfl (.pure rfl) .nil)) rfl) ?_
                    refine RW.opd rfl rfl (LO.move rfl rfl) ?_
                    refine RW.gd rfl rfl rfl ?_ rfl (LO.move rfl rfl) ?_; (· (first | rfl | assumption))
                    refine RW.gd rfl rfl rfl ?_ rfl (LO.fieldAddr rfl rfl ty54 rfl (by decide)) ?_; (· (first | rfl | assumption))
                    refine RW.gd rfl rfl rfl ?_ rfl (LO.load rfl rfl rfl rfl ty3 rfl) ?_; (· (first | rfl | assumption))
                    refine RW.gd rfl rfl rfl ?_ rfl (LO.conv_in rfl rfl ty3 ty70 ?_) ?_; (· (first | rfl | assumption)); (· (first | exact IntWalk.u64_in _ (by omega) | assumption))
                    refine RW.gd rfl rfl rfl ?_ rfl (LO.shr rfl rfl rfl ?_) ?_; (· (first | rfl | assumption)); (· (first | omega | decide | assumption | fail | (simp; done) | (simp; omega)))
                    refine RW.gd rfl rfl rfl ?_ rfl (LO.and rfl rfl rfl) ?_; (· (first | rfl | assumption))
                    refine RW.gd rfl rfl rfl ?_ rfl (LO.move rfl rfl) ?_; (· (first | rfl | assumption))
                    refine RW.gd rfl rfl rfl ?_ rfl (LO.fieldAddr rfl rfl ty54 rfl (by decide)) ?_; (· (first | rfl | assumption))
                    refine RW.gd rfl rfl rfl ?_ rfl (LO.load rfl rfl rfl rfl ty3 rfl) ?_; (· (first | rfl | assumption))
                    refine RW.gd rfl rfl rfl ?_ rfl (LO.conv_in rfl rfl ty3 ty70 ?_) ?_; (· (first | rfl | assumption)); (· (first | exact IntWalk.u64_in _ (by omega) | assumption))
                    refine RW.gd rfl rfl rfl ?_ rfl (LO.shr rfl rfl rfl ?_) ?_; (· (first | rfl | assumption)); (· (first | omega | decide | assumption | fail | (simp; done) | (simp; omega)))
                    refine RW.gd rfl rfl rfl ?_ rfl (LO.and rfl rfl rfl) ?_; (· (first | rfl | assumption))
                    refine RW.gd rfl rfl rfl ?_ rfl (LO.neq rfl rfl rfl) ?_; (· (first | rfl | assumption))
                    refine RW.opd rfl rfl (LO.pick_t rfl rfl ?_ rfl) ?_; (· (first | rfl | assumption))
                    refine RW.nil ?_
                    repeat (refine W.seq ?_)
                    refine W.cond_t rfl (by first | rfl | assumption) ?_
                    repeat (refine W.seq ?_)
                    refine W.region 121 126 (by decide) rfl rfl ?_
                    refine RW.opd rfl rfl (LO.move rfl rfl) ?_
                    refine RW.opd rfl rfl (LO.fieldAddr rfl rfl ty54 rfl (by decide)) ?_
                    refine RW.opd rfl rfl (LO.load rfl rfl rfl rfl ty3 rfl) ?_
                    refine RW.opd rfl rfl (LO.add_in rfl rfl rfl ?_) ?_; (· (first | exact IntWalk.i64_in _ (by omega) | assumption))
                    refine RW.opd rfl rfl (LO.assign rfl rfl) ?_
                    refine RW.nil ?_
                    repeat (refine W.seq ?_)
                    refine W.region 130 132 (by decide) rfl rfl ?_
                    refine RW.opd rfl rfl (LO.add_in rfl rfl rfl ?_) ?_; (· (first | exact IntWalk.i64_in _ (by omega) | assumption))
                    refine RW.opd rfl rfl (LO.move rfl rfl) ?_
                    refine RW.nil ?_
                    refine WL.rename [(0, 0)] 1 (by decide) ?_ ?_ (ihB ((i + 1), (n + f.links[i].c)) (show f.links.length - (i + 1) < f.links.length - i from by omega) (show (i + 1) ≤ f.links.length ∧ (n + f.links[i].c) = capK f (wkF f) s.testBit (i + 1) from ⟨by omega, hnn.symm⟩))
                    · (repeat' (first | exact all_mt | refine all_up ?_ ?_)) <;> first | exact .inl ⟨rfl, rfl⟩ | exact .inr ⟨rfl, fun _ h => by cases h⟩ | exact .inl ⟨rfl, by first | rfl | assumption ⟩
                    · (repeat' (first | exact all_mt | refine all_up ?_ ?_)) <;> first | exact ⟨rfl, _, rfl, .inr ⟨rfl, rfl⟩⟩ | exact ⟨rfl, _, rfl, .inl rfl⟩ | exact ⟨rfl, _, rfl, .inr ⟨rfl, by first | rfl | assumption ⟩⟩
                  | false =>
                    have g8 : (bitV .and .i64 ((s : Int).fdiv (2 ^ (min f.links[i].a.toNat IntKind.i64.bits))) 1 != bitV .and .i64 ((s : Int).fdiv (2 ^ (min f.links[i].b.toNat IntKind.i64.bits))) 1) = false := by rw [hla, hlb, bitne]; exact tc
                    rw [tc] at hnn
                    repeat (refine W.seq ?_)
                    refine W.region 99 117 (by decide) rfl rfl ?_
                    refine RW.opd rfl rfl (LO.load_agg rfl rfl rfl ty25 rfl (Tk.lit rfl)) ?_
                    refine RW.opd rfl rfl (LO.move rfl rfl) ?_
                    refine RW.opd rfl rfl (LO.call0 (fr := []) rfl rfl (hwk _) fok23 (.cons rfl (.pure rfl) (.cons rfl (.pure rfl) .nil)) rfl) ?_
                    refine RW.opd rfl rfl (LO.move rfl rfl) ?_
                    refine RW.gd rfl rfl rfl ?_ rfl (LO.move rfl rfl) ?_; (· (first | rfl | assumption))
                    refine RW.gd rfl rfl rfl ?_ rfl (LO.fieldAddr rfl rfl ty54 rfl (by decide)) ?_; (· (first | rfl | assumption))
                    refine RW.gd rfl rfl rfl ?_ rfl (LO.load rfl rfl rfl rfl ty3 rfl) ?_; (· (first | rfl | assumption))
                    refine RW.gd rfl rfl rfl ?_ rfl (LO.conv_in rfl rfl ty3 ty70 ?_) ?_; (· (first | rfl | assumption)); (· (first | exact IntWalk.u64_in _ (by omega) | assumption))
                    refine RW.gd rfl rfl rfl ?_ rfl (LO.shr rfl rfl rfl ?_) ?_; (· (first | rfl | assumption)); (· (first | omega | decide | assumption | fail | (simp; done) | (simp; omega)))
                    refine RW.gd rfl rfl rfl ?_ rfl (LO.and rfl rfl rfl) ?_; (· (first | rfl | assumption))
                    refine RW.gd rfl rfl rfl ?_ rfl (LO.move rfl rfl) ?_; (· (first | rfl | assumption))
                    refine RW.gd rfl rfl rfl ?_ rfl (LO.fieldAddr rfl rfl ty54 rfl (by decide)) ?_; (· (first | rfl | assumption))
                    refine RW.gd rfl rfl rfl ?_ rfl (LO.load rfl rfl rfl rfl ty3 rfl) ?_; (· (first | rfl | assumption))
                    refine RW.gd rfl rfl rfl ?_ rfl (LO.conv_in rfl rfl ty3 ty70 ?_) ?_; (· (first | rfl | assumption)); (· (first | exact IntWalk.u64_in _ (by omega) | assumption))
                    refine RW.gd rfl rfl rfl ?_ rfl (LO.shr rfl rfl rfl ?_) ?_; (· (first | rfl | assumption)); (· (first | omega | decide | assumption | fail | (simp; done) | (simp; omega)))
                    refine RW.gd rfl rfl rfl ?_ rfl (LO.and rfl rfl rfl) ?_; (· (first | rfl | assumption))
                    refine RW.gd rfl rfl rfl ?_ rfl (LO.neq rfl rfl rfl) ?_; (· (first | rfl | assumption))
                    refine RW.opd rfl rfl (LO.pick_t rfl rfl ?_ rfl) ?_; (· (first | rfl | assumption))
                    refine RW.nil ?_
                    repeat (refine W.seq ?_)
                    refine W.cond_f rfl (by first | rfl | assumption) ?_
                    refine W.skip ?_
                    repeat (refine W.seq ?_)
                    refine W.region 130 132 (by decide) rfl rfl ?_
                    refine RW.opd rfl rfl (LO.add_in rfl rfl rfl ?_) ?_; (· (first | exact IntWalk.i64_in _ (by omega) | assumption))
                    refine RW.opd rfl rfl (LO.move rfl rfl) ?_
                    refine RW.nil ?_
                    refine WL.rename [(0, 0)] 1 (by decide) ?_ ?_ (ihB ((i + 1), n) (show f.links.length - (i + 1) < f.links.length - i from by omega) (show (i + 1) ≤ f.links.length ∧ n = capK f (wkF f) s.testBit (i + 1) from ⟨by omega, by rw [hnn]; simp⟩))
                    · (repeat' (first | exact all_mt | refine all_up ?_ ?_)) <;> first | exact .inl ⟨rfl, rfl⟩ | exact .inr ⟨rfl, fun _ h => by cases h⟩ | exact .inl ⟨rfl, by first | rfl | assumption ⟩
                    · (repeat' (first | exact all_mt | refine all_up ?_ ?_)) <;> first | exact ⟨rfl, _, rfl, .inr ⟨rfl, rfl⟩⟩ | exact ⟨rfl, _, rfl, .inl rfl⟩ | exact ⟨rfl, _, rfl, .inr ⟨rfl, by first | rfl | assumption ⟩⟩
              · have g7 : decide ((i : Int) < (f.links.length : Int)) = false := decide_eq_false (by omega)
                repeat (refine W.seq ?_)
                refine W.region 84 85 (by decide) rfl rfl ?_
                refine RW.opd rfl rfl (LO.lss rfl rfl rfl) ?_
                refine RW.nil ?_
                repeat (refine W.seq ?_)
                refine W.cond_f rfl (by first | rfl | assumption) ?_
                refine W.exit ?_
                obtain rfl : i = f.links.length := by omega
                rw [show capC f (wkF f) s.testBit = n from hn.symm] at hnx
                by_cases e1 : m < 0
                · have g8 : decide (m < 0) = true := decide_eq_true e1
                  repeat (refine W.seq ?_)
                  refine W.region 136 143 (by decide) rfl rfl ?_
                  refine RW.opd rfl rfl (LO.move rfl rfl) ?_
                  refine RW.opd rfl rfl (LO.lss rfl rfl rfl) ?_
                  refine RW.opd rfl rfl (LO.move rfl rfl) ?_
                  refine RW.sd rfl rfl rfl ?_ rfl ?_; (· (first | rfl | assumption))
                  refine RW.sd rfl rfl rfl ?_ rfl ?_; (· (first | rfl | assumption))
                  refine RW.sd rfl rfl rfl ?_ rfl ?_; (· (first | rfl | assumption))
                  refine RW.opd rfl rfl (LO.pick_t rfl rfl ?_ rfl) ?_; (· (first | rfl | assumption))
                  refine RW.nil ?_
                  repeat (refine W.seq ?_)
                  refine W.cond_t rfl (by first | rfl | assumption) ?_
                  repeat (refine W.seq ?_)
                  refine W.region 147 149 (by decide) rfl rfl ?_
                  refine RW.opd rfl rfl (LO.move rfl rfl) ?_
                  refine RW.opd rfl rfl (LO.assign rfl rfl) ?_
                  refine RW.nil ?_
                  repeat (refine W.seq ?_)
                  refine W.region 153 155 (by decide) rfl rfl ?_
                  refine RW.opd rfl rfl (LO.add_in rfl rfl rfl ?_) ?_; (· (first | exact IntWalk.i64_in _ (by omega) | assumption))
                  refine RW.opd rfl rfl (LO.move rfl rfl) ?_
                  refine RW.nil ?_
                  refine WL.rename [(0, 0)] 1 (by decide) ?_ ?_ (ihA ((s + 1), n) (show N - (s + 1) < N - s from by omega) (show (s + 1) ≤ N ∧ n = minCut f (wkF f) a.toNat b.toNat (s + 1) from ⟨by omega, by rw [hnx]; simp [e1]⟩))
                  · (repeat' (first | exact all_mt | refine all_up ?_ ?_)) <;> first | exact .inl ⟨rfl, rfl⟩ | exact .inr ⟨rfl, fun _ h => by cases h⟩ | exact .inl ⟨rfl, by first | rfl | assumption ⟩
                  · (repeat' (first | exact all_mt | refine all_up ?_ ?_)) <;> first | exact ⟨rfl, _, rfl, .inr ⟨rfl, rfl⟩⟩ | exact ⟨rfl, _, rfl, .inl rfl⟩ | exact ⟨rfl, _, rfl, .inr ⟨rfl, by first | rfl | assumption ⟩⟩
                · have g8 : decide (m < 0) = false := decide_eq_false e1
                  by_cases e2 : n < m
                  · have g9 : decide (n < m) = true := decide_eq_true e2
                    repeat (refine W.seq ?_)
                    refine W.region 136 143 (by decide) rfl rfl ?_
                    refine RW.opd rfl rfl (LO.move rfl rfl) ?_
                    refine RW.opd rfl rfl (LO.lss rfl rfl rfl) ?_
                    refine RW.opd rfl rfl (LO.move rfl rfl) ?_
                    refine RW.gd rfl rfl rfl ?_ rfl (LO.move rfl rfl) ?_; (· (first | rfl | assumption))
                    refine RW.gd rfl rfl rfl ?_ rfl (LO.move rfl rfl) ?_; (· (first | rfl | assumption))
                    refine RW.gd rfl rfl rfl ?_ rfl (LO.lss rfl rfl rfl) ?_; (· (first | rfl | assumption))
                    refine RW.opd rfl rfl (LO.pick_f rfl rfl ?_ rfl) ?_; (· (first | rfl | assumption))
                    refine RW.nil ?_
                    repeat (refine W.seq ?_)
                    refine W.cond_t rfl (by first | rfl | assumption) ?_
                    repeat (refine W.seq ?_)
                    refine W.region 147 149 (by decide) rfl rfl ?_
                    refine RW.opd rfl rfl (LO.move rfl rfl) ?_
                    refine RW.opd rfl rfl (LO.assign rfl rfl) ?_
                    refine RW.nil ?_
                    repeat (refine W.seq ?_)
                    refine W.region 153 155 (by decide) rfl rfl ?_
                    refine RW.opd rfl rfl (LO.add_in rfl rfl rfl ?_) ?_; (· (first | exact IntWalk.i64_in _ (by omega) | assumption))
                    refine RW.opd rfl rfl (LO.move rfl rfl) ?_
                    refine RW.nil ?_
                    refine WL.rename [(0, 0)] 1 (by decide) ?_ ?_ (ihA ((s + 1), n) (show N - (s + 1) < N - s from by omega) (show (s + 1) ≤ N ∧ n = minCut f (wkF f) a.toNat b.toNat (s + 1) from ⟨by omega, by rw [hnx]; simp [e2]⟩))
                    · (repeat' (first | exact all_mt | refine all_up ?_ ?_)) <;> first | exact .inl ⟨rfl, rfl⟩ | exact .inr ⟨rfl, fun _ h => by cases h⟩ | exact .inl ⟨rfl, by first | rfl | assumption ⟩
                    · (repeat' (first | exact all_mt | refine all_up ?_ ?_)) <;> first | exact ⟨rfl, _, rfl, .inr ⟨rfl, rfl⟩⟩ | exact ⟨rfl, _, rfl, .inl rfl⟩ | exact ⟨rfl, _, rfl, .inr ⟨rfl, by first | rfl | assumption ⟩⟩
                  · have g9 : decide (n < m) = false := decide_eq_false e2
                    repeat (refine W.seq ?_)
                    refine W.region 136 143 (by decide) rfl rfl ?_
                    refine RW.opd rfl rfl (LO.move rfl rfl) ?_
                    refine RW.opd rfl rfl (LO.lss rfl rfl rfl) ?_
                    refine RW.opd rfl rfl (LO.move rfl rfl) ?_
                    refine RW.gd rfl rfl rfl ?_ rfl (LO.move rfl rfl) ?_; (· (first | rfl | assumption))
                    refine RW.gd rfl rfl rfl ?_ rfl (LO.move rfl rfl) ?_; (· (first | rfl | assumption))
                    refine RW.gd rfl rfl rfl ?_ rfl (LO.lss rfl rfl rfl) ?_; (· (first | rfl | assumption))
                    refine RW.opd rfl rfl (LO.pick_f rfl rfl ?_ rfl) ?_; (· (first | rfl | assumption))
                    refine RW.nil ?_
                    repeat (refine W.seq ?_)
                    refine W.cond_f rfl (by first | rfl | assumption) ?_
                    refine W.skip ?_
                    repeat (refine W.seq ?_)
                    refine W.region 153 155 (by decide) rfl rfl ?_
                    refine RW.opd rfl rfl (LO.add_in rfl rfl rfl ?_) ?_; (· (first | exact IntWalk.i64_in _ (by omega) | assumption))
                    refine RW.opd rfl rfl (LO.move rfl rfl) ?_
                    refine RW.nil ?_
                    refine WL.rename [(0, 0)] 1 (by decide) ?_ ?_ (ihA ((s + 1), m) (show N - (s + 1) < N - s from by omega) (show (s + 1) ≤ N ∧ m = minCut f (wkF f) a.toNat b.toNat (s + 1) from ⟨by omega, by rw [hnx]; simp [e1, e2]⟩))
                    · (repeat' (first | exact all_mt | refine all_up ?_ ?_)) <;> first | exact .inl ⟨rfl, rfl⟩ | exact .inr ⟨rfl, fun _ h => by cases h⟩ | exact .inl ⟨rfl, by first | rfl | assumption ⟩
                    · (repeat' (first | exact all_mt | refine all_up ?_ ?_)) <;> first | exact ⟨rfl, _, rfl, .inr ⟨rfl, rfl⟩⟩ | exact ⟨rfl, _, rfl, .inl rfl⟩ | exact ⟨rfl, _, rfl, .inr ⟨rfl, by first | rfl | assumption ⟩⟩
        · have g4 : decide ((s : Int) < (N : Int)) = false := decide_eq_false (by omega)
          repeat (refine W.seq ?_)
          refine W.region 42 43 (by decide) rfl rfl ?_
          refine RW.opd rfl rfl (LO.lss rfl rfl rfl) ?_
          refine RW.nil ?_
          repeat (refine W.seq ?_)
          refine W.cond_f rfl (by first | rfl | assumption) ?_
          refine W.exit ?_
          obtain rfl : s = N := by omega
          repeat (refine W.seq ?_)
          refine W.region 159 161 (by decide) rfl rfl ?_
          refine RW.opd rfl rfl (LO.move rfl rfl) ?_
          refine RW.opd rfl rfl (LO.assign rfl rfl) ?_
          refine RW.nil ?_
          repeat (refine W.seq ?_)
          refine W.ret ⟨.inl rfl, _, mt, RVs.cons (RV.tmp rfl) (RVs.nil), all_mt, ?_⟩
          exact ⟨by rw [hv, hm]; rfl, rfl⟩

theorem valid_len {f : Fab} (hv : validB f = true) : f.links.length ≤ 24 := by
  unfold validB sizeB at hv
  simp only [Bool.and_eq_true, decide_eq_true_eq] at hv
  omega
theorem valid_links {f : Fab} (h8 : f.dead.length ≤ 8) (hv : validB f = true) : LinksOK f := by
  intro i l hl hw
  unfold validB at hv
  simp only [Bool.and_eq_true] at hv
  have := List.all_eq_true.1 hv.1 l (List.mem_of_getElem? hl)
  unfold lnkB at this
  simp only [Bool.and_eq_true, decide_eq_true_eq, Bool.not_eq_true', beq_eq_false_iff_ne] at this
  obtain ⟨h1, h2, h3, h4⟩ := wkF_wf f i l hl hw
  exact ⟨by omega, by omega, by omega, by omega, this.2.2.2.2.1, by omega, by omega⟩
theorem capStep_bd {f : Fab} (hL : LinksOK f) (k : Nat) (hk : k ≤ 24) (j : Nat) : 0 ≤ cN (capM f (wkF f) k) j ∧ cN (capM f (wkF f) k) j ≤ 24 * 1048576 := by
  have := capM_bd (B := 1048576) (by omega) hL k j
  omega
theorem capM_len2 (f : Fab) (W : Nat → Bool) (k : Nat) : (capM f W k).length = 64 := by
  induction k with
  | zero => rfl
  | succ k ih =>
    rw [capM_succ]
    unfold capStep
    split
    · exact ih
    · split
      · rw [addAt_len, addAt_len, ih]
      · exact ih
theorem flow_min {f : Fab} (hL : LinksOK f) {a b : Nat} {s : Int} (ha : a < f.dead.length) (hb : b < f.dead.length) (hab : a ≠ b) (h : IsFlow f (wkF f) a b s) : s = minCut f (wkF f) a b (2 ^ f.dead.length) :=
  h.uniq (minCut_flow (fun i l hl hW => (hL i l hl hW).c1) (fun i l hl hW => by obtain ⟨h1, h2, h3, h4⟩ := wkF_wf f i l hl hW; omega) ha hb hab)
theorem flow_any (f : Fab) (hf : FabS f) (hval : validB f = true) (a b : Int) : AFn Try.prog 24 0 [.agg (fabC f), .base (.int .i64 a), .base (.int .i64 b)] mt (.base (.int .i64 (flowF f a b))) mt := by
  refine AFn.eq Try.func24 rfl rfl (Nat.le_of_ble_eq_true rfl) ?_
  have hal := alive_any f
  have hwk := works_any f
  have h24 := valid_len hval
  have hvl := valid_any f (by omega)
  rw [hval] at hvl
  have hL := valid_links hf.n8 hval
  obtain ⟨hsw, h8, _⟩ := hf
  repeat (refine W.seq ?_)
  refine W.region 0 2 (by decide) rfl rfl ?_
  refine RW.opd rfl rfl (LO.box rfl rfl rfl) ?_
  refine RW.opd rfl rfl (LO.assign rfl rfl) ?_
  refine RW.nil ?_
  by_cases hab : a = b
  · have g1 : (a == b) = true := by simpa using hab
    have hv : flowF f a b = 0 := by unfold flowF; rw [if_pos hab]
    repeat (refine W.seq ?_)
    refine W.region 6 26 (by decide) rfl rfl ?_
    refine RW.opd rfl rfl (LO.load_agg rfl rfl rfl ty25 rfl (Tk.lit rfl)) ?_
    refine RW.opd rfl rfl (LO.call0 (fr := []) rfl rfl (hvl) fok19 (.cons rfl (.pure rfl) .nil) rfl) ?_
    refine RW.opd rfl rfl (LO.not rfl rfl) ?_
    refine RW.opd rfl rfl (LO.move rfl rfl) ?_
    refine RW.gd rfl rfl rfl ?_ rfl (LO.move rfl rfl) ?_; (· (first | rfl | assumption))
    refine RW.gd rfl rfl rfl ?_ rfl (LO.move rfl rfl) ?_; (· (first | rfl | assumption))
    refine RW.gd rfl rfl rfl ?_ rfl (LO.eql rfl rfl rfl) ?_; (· (first | rfl | assumption))
    refine RW.opd rfl rfl (LO.pick_f rfl rfl ?_ rfl) ?_; (· (first | rfl | assumption))
    refine RW.opd rfl rfl (LO.move rfl rfl) ?_
    refine RW.sd rfl rfl rfl ?_ rfl ?_; (· (first | rfl | assumption))
    refine RW.sd rfl rfl rfl ?_ rfl ?_; (· (first | rfl | assumption))
    refine RW.sd rfl rfl rfl ?_ rfl ?_; (· (first | rfl | assumption))
    refine RW.sd rfl rfl rfl ?_ rfl ?_; (· (first | rfl | assumption))
    refine RW.opd rfl rfl (LO.pick_t rfl rfl ?_ rfl) ?_; (· (first | rfl | assumption))
    refine RW.opd rfl rfl (LO.move rfl rfl) ?_
    refine RW.sd rfl rfl rfl ?_ rfl ?_; (· (first | rfl | assumption))
    refine RW.sd rfl rfl rfl ?_ rfl ?_; (· (first | rfl | assumption))
    refine RW.sd rfl rfl rfl ?_ rfl ?_; (· (first | rfl | assumption))
    refine RW.sd rfl rfl rfl ?_ rfl ?_; (· (first | rfl | assumption))
    refine RW.opd rfl rfl (LO.pick_t rfl rfl ?_ rfl) ?_; (· (first | rfl | assumption))
    refine RW.nil ?_
    repeat (refine W.seq ?_)
    refine W.cond_t rfl (by first | rfl | assumption) ?_
    repeat (refine W.seq ?_)
    refine W.region 30 31 (by decide) rfl rfl ?_
    refine RW.opd rfl rfl (LO.assign rfl rfl) ?_
    refine RW.nil ?_
    repeat (refine W.seq ?_)
    refine W.ret ⟨.inl rfl, _, mt, RVs.cons (RV.tmp rfl) (RVs.nil), all_mt, ?_⟩
    exact ⟨by rw [hv]; rfl, rfl⟩
  · have g1 : (a == b) = false := by simpa using hab
    cases ha : aliveB f a with
    | false =>
      have g2 : (!aliveB f a) = true := by rw [ha]; rfl
      have hv : flowF f a b = 0 := by unfold flowF; rw [if_neg hab, ha]; rfl
      repeat (refine W.seq ?_)
      refine W.region 6 26 (by decide) rfl rfl ?_
      refine RW.opd rfl rfl (LO.load_agg rfl rfl rfl ty25 rfl (Tk.lit rfl)) ?_
      refine RW.opd rfl rfl (LO.call0 (fr := []) rfl rfl (hvl) fok19 (.cons rfl (.pure rfl) .nil) rfl) ?_
      refine RW.opd rfl rfl (LO.not rfl rfl) ?_
      refine RW.opd rfl rfl (LO.move rfl rfl) ?_
      refine RW.gd rfl rfl rfl ?_ rfl (LO.move rfl rfl) ?_; (· (first | rfl | assumption))
      refine RW.gd rfl rfl rfl ?_ rfl (LO.move rfl rfl) ?_; (· (first | rfl | assumption))
      refine RW.gd rfl rfl rfl ?_ rfl (LO.eql rfl rfl rfl) ?_; (· (first | rfl | assumption))
      refine RW.opd rfl rfl (LO.pick_f rfl rfl ?_ rfl) ?_; (· (first | rfl | assumption))
      refine RW.opd rfl rfl (LO.move rfl rfl) ?_
      refine RW.gd rfl rfl rfl ?_ rfl (LO.load_agg rfl rfl rfl ty25 rfl (Tk.lit rfl)) ?_; (· (first | rfl | assumption))
      refine RW.gd rfl rfl rfl ?_ rfl (LO.move rfl rfl) ?_; (· (first | rfl | assumption))
      refine RW.gd rfl rfl rfl ?_ rfl (LO.call0 (fr := []) rfl rfl (hal _) fok44 (.cons rfl (.pure rfl) (.cons rfl (.pure rfl) .nil)) rfl) ?_; (· (first | rfl | assumption))
      refine RW.gd rfl rfl rfl ?_ rfl (LO.not rfl rfl) ?_; (· (first | rfl | assumption))
      refine RW.opd rfl rfl (LO.pick_f rfl rfl ?_ rfl) ?_; (· (first | rfl | assumption))
      refine RW.opd rfl rfl (LO.move rfl rfl) ?_
      refine RW.sd rfl rfl rfl ?_ rfl ?_; (· (first | rfl | assumption))
      refine RW.sd rfl rfl rfl ?_ rfl ?_; (· (first | rfl | assumption))
      refine RW.sd rfl rfl rfl ?_ rfl ?_; (· (first | rfl | assumption))
      refine RW.sd rfl rfl rfl ?_ rfl ?_; (· (first | rfl | assumption))
      refine RW.opd rfl rfl (LO.pick_t rfl rfl ?_ rfl) ?_; (· (first | rfl | assumption))
      refine RW.nil ?_
      repeat (refine W.seq ?_)
      refine W.cond_t rfl (by first | rfl | assumption) ?_
      repeat (refine W.seq ?_)
      refine W.region 30 31 (by decide) rfl rfl ?_
      refine RW.opd rfl rfl (LO.assign rfl rfl) ?_
      refine RW.nil ?_
      repeat (refine W.seq ?_)
      refine W.ret ⟨.inl rfl, _, mt, RVs.cons (RV.tmp rfl) (RVs.nil), all_mt, ?_⟩
      exact ⟨by rw [hv]; rfl, rfl⟩
    | true =>
      have g2 : (!aliveB f a) = false := by rw [ha]; rfl
      cases hb : aliveB f b with
      | false =>
        have g3 : (!aliveB f b) = true := by rw [hb]; rfl
        have hv : flowF f a b = 0 := by unfold flowF; rw [if_neg hab, hb, Bool.and_false]; rfl
        repeat (refine W.seq ?_)
        refine W.region 6 26 (by decide) rfl rfl ?_
        refine RW.opd rfl rfl (LO.load_agg rfl rfl rfl ty25 rfl (Tk.lit rfl)) ?_
        refine RW.opd rfl rfl (LO.call0 (fr := []) rfl rfl (hvl) fok19 (.cons rfl (.pure rfl) .nil) rfl) ?_
        refine RW.opd rfl rfl (LO.not rfl rfl) ?_
        refine RW.opd rfl rfl (LO.move rfl rfl) ?_
        refine RW.gd rfl rfl rfl ?_ rfl (LO.move rfl rfl) ?_; (· (first | rfl | assumption))
        refine RW.gd rfl rfl rfl ?_ rfl (LO.move rfl rfl) ?_; (· (first | rfl | assumption))
        refine RW.gd rfl rfl rfl ?_ rfl (LO.eql rfl rfl rfl) ?_; (· (first | rfl | assumption))
        refine RW.opd rfl rfl (LO.pick_f rfl rfl ?_ rfl) ?_; (· (first | rfl | assumption))
        refine RW.opd rfl rfl (LO.move rfl rfl) ?_
        refine RW.gd rfl rfl rfl ?_ rfl (LO.load_agg rfl rfl rfl ty25 rfl (Tk.lit rfl)) ?_; (· (first | rfl | assumption))
        refine RW.gd rfl rfl rfl ?_ rfl (LO.move rfl rfl) ?_; (· (first | rfl | assumption))
        refine RW.gd rfl rfl rfl ?_ rfl (LO.call0 (fr := []) rfl rfl (hal _) fok44 (.cons rfl (.pure rfl) (.cons rfl (.pure rfl) .nil)) rfl) ?_; (· (first | rfl | assumption))
        refine RW.gd rfl rfl rfl ?_ rfl (LO.not rfl rfl) ?_; (· (first | rfl | assumption))
        refine RW.opd rfl rfl (LO.pick_f rfl rfl ?_ rfl) ?_; (· (first | rfl | assumption))
        refine RW.opd rfl rfl (LO.move rfl rfl) ?_
        refine RW.gd rfl rfl rfl ?_ rfl (LO.load_agg rfl rfl rfl ty25 rfl (Tk.lit rfl)) ?_; (· (first | rfl | assumption))
        refine RW.gd rfl rfl rfl ?_ rfl (LO.move rfl rfl) ?_; (· (first | rfl | assumption))
        refine RW.gd rfl rfl rfl ?_ rfl (LO.call0 (fr := []) rfl rfl (hal _) fok44 (.cons rfl (.pure rfl) (.cons rfl (.pure rfl) .nil)) rfl) ?_; (· (first | rfl | assumption))
        refine RW.gd rfl rfl rfl ?_ rfl (LO.not rfl rfl) ?_; (· (first | rfl | assumption))
        refine RW.opd rfl rfl (LO.pick_f rfl rfl ?_ rfl) ?_; (· (first | rfl | assumption))
        refine RW.nil ?_
        repeat (refine W.seq ?_)
        refine W.cond_t rfl (by first | rfl | assumption) ?_
        repeat (refine W.seq ?_)
        refine W.region 30 31 (by decide) rfl rfl ?_
        refine RW.opd rfl rfl (LO.assign rfl rfl) ?_
        refine RW.nil ?_
        repeat (refine W.seq ?_)
        refine W.ret ⟨.inl rfl, _, mt, RVs.cons (RV.tmp rfl) (RVs.nil), all_mt, ?_⟩
        exact ⟨by rw [hv]; rfl, rfl⟩
      | true =>
        have g3 : (!aliveB f b) = false := by rw [hb]; rfl
        have hv : flowF f a b = minCut f (wkF f) a.toNat b.toNat (2 ^ f.dead.length) := by unfold flowF; rw [if_neg hab, ha, hb]; rfl
        obtain ⟨a0, a1⟩ := aliveB_lt ha
        obtain ⟨b0, b1⟩ := aliveB_lt hb
        repeat (refine W.seq ?_)
        refine W.region 6 26 (by decide) rfl rfl ?_
        refine RW.opd rfl rfl (LO.load_agg rfl rfl rfl ty25 rfl (Tk.lit rfl)) ?_
        refine RW.opd rfl rfl (LO.call0 (fr := []) rfl rfl (hvl) fok19 (.cons rfl (.pure rfl) .nil) rfl) ?_
        refine RW.opd rfl rfl (LO.not rfl rfl) ?_
        refine RW.opd rfl rfl (LO.move rfl rfl) ?_
        refine RW.gd rfl rfl rfl ?_ rfl (LO.move rfl rfl) ?_; (· (first | rfl | assumption))
        refine RW.gd rfl rfl rfl ?_ rfl (LO.move rfl rfl) ?_; (· (first | rfl | assumption))
        refine RW.gd rfl rfl rfl ?_ rfl (LO.eql rfl rfl rfl) ?_; (· (first | rfl | assumption))
        refine RW.opd rfl rfl (LO.pick_f rfl rfl ?_ rfl) ?_; (· (first | rfl | assumption))
        refine RW.opd rfl rfl (LO.move rfl rfl) ?_
        refine RW.gd rfl rfl rfl ?_ rfl (LO.load_agg rfl rfl rfl ty25 rfl (Tk.lit rfl)) ?_; (· (first | rfl | assumption))
        refine RW.gd rfl rfl rfl ?_ rfl (LO.move rfl rfl) ?_; (· (first | rfl | assumption))
        refine RW.gd rfl rfl rfl ?_ rfl (LO.call0 (fr := []) rfl rfl (hal _) fok44 (.cons rfl (.pure rfl) (.cons rfl (.pure rfl) .nil)) rfl) ?_; (· (first | rfl | assumption))
        refine RW.gd rfl rfl rfl ?_ rfl (LO.not rfl rfl) ?_; (· (first | rfl | assumption))
        refine RW.opd rfl rfl (LO.pick_f rfl rfl ?_ rfl) ?_; (· (first | rfl | assumption))
        refine RW.opd rfl rfl (LO.move rfl rfl) ?_
        refine RW.gd rfl rfl rfl ?_ rfl (LO.load_agg rfl rfl rfl ty25 rfl (Tk.lit rfl)) ?_; (· (first | rfl | assumption))
        refine RW.gd rfl rfl rfl ?_ rfl (LO.move rfl rfl) ?_; (· (first | rfl | assumption))
        refine RW.gd rfl rfl rfl ?_ rfl (LO.call0 (fr := []) rfl rfl (hal _) fok44 (.cons rfl (.pure rfl) (.cons rfl (.pure rfl) .nil)) rfl) ?_; (· (first | rfl | assumption))
        refine RW.gd rfl rfl rfl ?_ rfl (LO.not rfl rfl) ?_; (· (first | rfl | assumption))
        refine RW.opd rfl rfl (LO.pick_f rfl rfl ?_ rfl) ?_; (· (first | rfl | assumption))
        refine RW.nil ?_
        repeat (refine W.seq ?_)
        refine W.cond_f rfl (by first | rfl | assumption) ?_
        refine W.skip ?_
        obtain ⟨an, rfl⟩ := Int.eq_ofNat_of_zero_le a0
        obtain ⟨bn, rfl⟩ := Int.eq_ofNat_of_zero_le b0
        rw [Int.toNat_natCast, Int.toNat_natCast] at hv
        repeat (refine W.seq ?_)
        refine W.region 35 36 (by decide) rfl rfl ?_
        refine RW.opd rfl rfl (LO.alloc rfl ty69) ?_
        refine RW.nil ?_
        repeat (refine W.seq ?_)
        refine W.region 40 44 (by decide) rfl rfl ?_
        refine RW.opd rfl rfl (LO.fieldAddr rfl rfl ty25 rfl (by decide)) ?_
        refine RW.opd rfl rfl (LO.load rfl rfl rfl rfl ty22 rfl) ?_
        refine RW.opd rfl rfl (LO.len_isl rfl rfl rfl ty22) ?_
        refine RW.opd rfl rfl (LO.move rfl rfl) ?_
        refine RW.nil ?_
        repeat (refine W.seq ?_)
        refine W.block ?_
        refine W.rename [(0, 0), (1, 35)] 2 (T' := up (up (up (up (up (up (up mt 1 (some (.base (.int .i64 (an : Int))))) 2 (some (.base (.int .i64 (bn : Int))))) 3 (some (.own 0 0))) 7 (some (.own 1 0))) 33 (some (.isl (lnksC f.links) f.links.length))) 34 (some (.base (.int .i64 (f.links.length : Int))))) 35 (some (.base (.int .i64 (0 : Int))))) (H' := up (up mt 0 (some (fabC f))) 1 (some (intsC (List.replicate 64 0)))) (by decide) ?_ ?_ ?_
        · (repeat' (first | exact all_mt | refine all_up ?_ ?_)) <;> first | exact .inl ⟨rfl, rfl⟩ | exact .inr ⟨rfl, fun _ h => by cases h⟩ | exact .inl ⟨rfl, by first | rfl | assumption | exact (intsC_pure _)⟩
        · (repeat' (first | exact all_mt | refine all_up ?_ ?_)) <;> first | exact ⟨rfl, _, rfl, .inr ⟨rfl, rfl⟩⟩ | exact ⟨rfl, _, rfl, .inl rfl⟩ | exact ⟨rfl, _, rfl, .inr ⟨rfl, by first | rfl | assumption | exact (intsC_pure _)⟩⟩
        refine W.loop_ind (α := Nat × List Int) (fun x => f.links.length - x.1) 2 (fun x => up (up (up (up (up (up (up mt 1 (some (.base (.int .i64 (an : Int))))) 2 (some (.base (.int .i64 (bn : Int))))) 3 (some (.own 0 0))) 7 (some (.own 1 0))) 33 (some (.isl (lnksC f.links) f.links.length))) 34 (some (.base (.int .i64 (f.links.length : Int))))) 35 (some (.base (.int .i64 (x.1 : Int))))) (fun x => up (up mt 0 (some (fabC f))) 1 (some (intsC x.2))) (fun x => x.1 ≤ f.links.length ∧ x.2 = capM f (wkF f) x.1) (0, (List.replicate 64 0)) (show 0 ≤ f.links.length ∧ (List.replicate 64 0) = capM f (wkF f) 0 from ⟨Nat.zero_le _, rfl⟩) ?_
        rintro ⟨i, nn⟩ hIA ihA
        try (dsimp only at hIA)
        try dsimp only
        obtain ⟨hi, hn⟩ := hIA
        have hnl : nn.length = 64 := by rw [hn]; exact capM_len2 _ _ _
        by_cases hc2 : i < f.links.length
        · have g7 : decide ((i : Int) < (f.links.length : Int)) = true := decide_eq_true (by omega)
          have hl : f.links[i]? = some f.links[i] := by simp [hc2]
          have hnn := capM_succ f (wkF f) i
          rw [← hn] at hnn
          unfold capStep at hnn
          rw [hl] at hnn
          dsimp only at hnn
          repeat (refine W.seq ?_)
          refine W.region 48 49 (by decide) rfl rfl ?_
          refine RW.opd rfl rfl (LO.lss rfl rfl rfl) ?_
          refine RW.nil ?_
          repeat (refine W.seq ?_)
          refine W.cond_t rfl (by first | rfl | assumption) ?_
          refine W.skip ?_
          repeat (refine W.seq ?_)
          refine W.block ?_
          repeat (refine W.seq ?_)
          refine W.region 53 59 (by decide) rfl rfl ?_
          refine RW.opd rfl rfl (LO.move rfl rfl) ?_
          refine RW.opd rfl rfl (LO.indexAddr_isl rfl rfl rfl rfl rfl ty22 ty54 ?_) ?_; (· (first | omega | decide | assumption | fail | (simp; done) | (simp; omega)))
          refine RW.opd rfl rfl (LO.load_imm_agg rfl rfl ty54 rfl (lnksC_tk hc2)) ?_
          refine RW.opd rfl rfl (LO.alloc rfl ty54) ?_
          refine RW.opd rfl rfl (LO.assign rfl rfl) ?_
          refine RW.opn rfl rfl (LO.store rfl rfl rfl rfl rfl ty54 rfl (by decide) (Sp.lit rfl)) ?_
          refine RW.nil ?_
          cases hwi : worksB f i with
          | false =>
            rw [show wkF f i = false from hwi] at hnn
            repeat (refine W.seq ?_)
            refine W.region 63 66 (by decide) rfl rfl ?_
            refine RW.opd rfl rfl (LO.load_agg rfl rfl rfl ty25 rfl (Tk.lit rfl)) ?_
            refine RW.opd rfl rfl (LO.move rfl rfl) ?_
            refine RW.opd rfl rfl (LO.call0 (fr := []) rfl rfl (hwk _) fok22 (.cons rfl (.pure rfl) (.cons rfl (.pure rfl) .nil)) rfl) ?_
            refine RW.nil ?_
            repeat (refine W.seq ?_)
            refine W.cond_f rfl (by first | rfl | assumption) ?_
            refine W.skip ?_
            repeat (refine W.seq ?_)
            refine W.region 104 106 (by decide) rfl rfl ?_
            refine RW.opd rfl rfl (LO.add_in rfl rfl rfl ?_) ?_; (· (first | exact IntWalk.i64_in _ (by omega) | assumption))
            refine RW.opd rfl rfl (LO.move rfl rfl) ?_
            refine RW.nil ?_
            refine WL.rename [(0, 0), (1, 1)] 2 (by decide) ?_ ?_ (ihA ((i + 1), nn) (show f.links.length - (i + 1) < f.links.length - i from by omega) (show (i + 1) ≤ f.links.length ∧ nn = capM f (wkF f) (i + 1) from ⟨by omega, by rw [hnn]; simp⟩))
            · (repeat' (first | exact all_mt | refine all_up ?_ ?_)) <;> first | exact .inl ⟨rfl, rfl⟩ | exact .inr ⟨rfl, fun _ h => by cases h⟩ | exact .inl ⟨rfl, by first | rfl | assumption | exact (intsC_pure _)⟩
            · (repeat' (first | exact all_mt | refine all_up ?_ ?_)) <;> first | exact ⟨rfl, _, rfl, .inr ⟨rfl, rfl⟩⟩ | exact ⟨rfl, _, rfl, .inl rfl⟩ | exact ⟨rfl, _, rfl, .inr ⟨rfl, by first | rfl | assumption | exact (intsC_pure _)⟩⟩
          | true =>
            rw [show wkF f i = true from hwi, if_pos rfl] at hnn
            obtain ⟨x1, x2, x3, x4⟩ := wkF_wf f i _ hl hwi
            have hlk := hL i _ hl hwi
            have hc1 := hlk.c1
            have hcB := hlk.cB
            have hab2 := hlk.ne
            have hb1 := capStep_bd hL i (by omega) (f.links[i].a.toNat * 8 + f.links[i].b.toNat)
            have hb2 := capStep_bd hL i (by omega) (f.links[i].b.toNat * 8 + f.links[i].a.toNat)
            rw [← hn] at hb1 hb2
            repeat (refine W.seq ?_)
            refine W.region 63 66 (by decide) rfl rfl ?_
            refine RW.opd rfl rfl (LO.load_agg rfl rfl rfl ty25 rfl (Tk.lit rfl)) ?_
            refine RW.opd rfl rfl (LO.move rfl rfl) ?_
            refine RW.opd rfl rfl (LO.call0 (fr := []) rfl rfl (hwk _) fok22 (.cons rfl (.pure rfl) (.cons rfl (.pure rfl) .nil)) rfl) ?_
            refine RW.nil ?_
            repeat (refine W.seq ?_)
            refine W.cond_t rfl (by first | rfl | assumption) ?_
            repeat (refine W.seq ?_)
            refine W.regionD 70 83 (by decide) rfl mixed rfl ?_
            refine RW.opd rfl rfl (LO.fieldAddr rfl rfl ty54 rfl (by decide)) ?_
            refine RW.opd rfl rfl (LO.load rfl rfl rfl rfl ty3 rfl) ?_
            refine RW.opd rfl rfl (LO.fieldAddr rfl rfl ty54 rfl (by decide)) ?_
            refine RW.opd rfl rfl (LO.load rfl rfl rfl rfl ty3 rfl) ?_
            refine RW.opd rfl rfl (LO.indexAddr_ar rfl rfl rfl (Int.toNat_of_nonneg x1).symm ty69 ty67 ?_) ?_; (· (first | omega | decide | assumption | fail | (simp; done) | (simp; omega)))
            refine RW.opd rfl rfl (LO.indexAddr_ar rfl rfl rfl (Int.toNat_of_nonneg x3).symm ty67 ty3 ?_) ?_; (· (first | omega | decide | assumption | fail | (simp; done) | (simp; omega)))
            refine RW.opd rfl rfl (LO.load rfl rfl rfl (cc_at hnl (by omega) (by omega)) ty3 rfl) ?_
            refine RW.opd rfl rfl (LO.fieldAddr rfl rfl ty54 rfl (by decide)) ?_
            refine RW.opd rfl rfl (LO.load rfl rfl rfl rfl ty3 rfl) ?_
            refine RW.opd rfl rfl (LO.add_in rfl rfl rfl ?_) ?_; (· (first | exact IntWalk.i64_in _ (by omega) | assumption))
            refine RW.opd rfl rfl (LO.indexAddr_ar rfl rfl rfl (Int.toNat_of_nonneg x1).symm ty69 ty67 ?_) ?_; (· (first | omega | decide | assumption | fail | (simp; done) | (simp; omega)))
            refine RW.opd rfl rfl (LO.indexAddr_ar rfl rfl rfl (Int.toNat_of_nonneg x3).symm ty67 ty3 ?_) ?_; (· (first | omega | decide | assumption | fail | (simp; done) | (simp; omega)))
            refine RW.opn rfl rfl (LO.store rfl rfl rfl rfl rfl ty3 rfl (by decide) (cs_at hnl (by omega) (by omega))) ?_
            refine RW.nil ⟨by kernel_rfl, ?_⟩
            obtain ⟨n2, hn2⟩ : ∃ n2, nn.set (f.links[i].a.toNat * 8 + f.links[i].b.toNat) (cN nn (f.links[i].a.toNat * 8 + f.links[i].b.toNat) + f.links[i].c) = n2 := ⟨_, rfl⟩
            rw [hn2]
            have hn2a : n2 = addAt nn (f.links[i].a.toNat * 8 + f.links[i].b.toNat) f.links[i].c := hn2.symm
            have hn2l : n2.length = 64 := by rw [hn2a, addAt_len]; exact hnl
            have h5 : cN n2 (f.links[i].b.toNat * 8 + f.links[i].a.toNat) = cN nn (f.links[i].b.toNat * 8 + f.links[i].a.toNat) := by rw [hn2a, cN_add (by omega), if_neg (by omega), Int.add_zero]
            repeat (refine W.seq ?_)
            refine W.regionD 87 100 (by decide) rfl mixed rfl ?_
            refine RW.opd rfl rfl (LO.fieldAddr rfl rfl ty54 rfl (by decide)) ?_
            refine RW.opd rfl rfl (LO.load rfl rfl rfl rfl ty3 rfl) ?_
            refine RW.opd rfl rfl (LO.fieldAddr rfl rfl ty54 rfl (by decide)) ?_
            refine RW.opd rfl rfl (LO.load rfl rfl rfl rfl ty3 rfl) ?_
            refine RW.opd rfl rfl (LO.indexAddr_ar rfl rfl rfl (Int.toNat_of_nonneg x3).symm ty69 ty67 ?_) ?_; (· (first | omega | decide | assumption | fail | (simp; done) | (simp; omega)))
            refine RW.opd rfl rfl (LO.indexAddr_ar rfl rfl rfl (Int.toNat_of_nonneg x1).symm ty67 ty3 ?_) ?_; (· (first | omega | decide | assumption | fail | (simp; done) | (simp; omega)))
            refine RW.opd rfl rfl (LO.load rfl rfl rfl (cc_at hn2l (by omega) (by omega)) ty3 rfl) ?_
            refine RW.opd rfl rfl (LO.fieldAddr rfl rfl ty54 rfl (by decide)) ?_
            refine RW.opd rfl rfl (LO.load rfl rfl rfl rfl ty3 rfl) ?_
            refine RW.opd rfl rfl (LO.add_in rfl rfl rfl ?_) ?_; (· (first | exact IntWalk.i64_in _ (by omega) | assumption))
            refine RW.opd rfl rfl (LO.indexAddr_ar rfl rfl rfl (Int.toNat_of_nonneg x3).symm ty69 ty67 ?_) ?_; (· (first | omega | decide | assumption | fail | (simp; done) | (simp; omega)))
            refine RW.opd rfl rfl (LO.indexAddr_ar rfl rfl rfl (Int.toNat_of_nonneg x1).symm ty67 ty3 ?_) ?_; (· (first | omega | decide | assumption | fail | (simp; done) | (simp; omega)))
            refine RW.opn rfl rfl (LO.store rfl rfl rfl rfl rfl ty3 rfl (by decide) (cs_at hn2l (by omega) (by omega))) ?_
            refine RW.nil ⟨by kernel_rfl, ?_⟩
            repeat (refine W.seq ?_)
            refine W.region 104 106 (by decide) rfl rfl ?_
            refine RW.opd rfl rfl (LO.add_in rfl rfl rfl ?_) ?_; (· (first | exact IntWalk.i64_in _ (by omega) | assumption))
            refine RW.opd rfl rfl (LO.move rfl rfl) ?_
            refine RW.nil ?_
            rw [show n2.set (f.links[i].b.toNat * 8 + f.links[i].a.toNat) (cN n2 (f.links[i].b.toNat * 8 + f.links[i].a.toNat) + f.links[i].c) = addAt n2 (f.links[i].b.toNat * 8 + f.links[i].a.toNat) f.links[i].c from rfl, hn2a, ← hnn]
            refine WL.rename [(0, 0), (1, 1)] 2 (by decide) ?_ ?_ (ihA ((i + 1), (capM f (wkF f) (i + 1))) (show f.links.length - (i + 1) < f.links.length - i from by omega) (show (i + 1) ≤ f.links.length ∧ (capM f (wkF f) (i + 1)) = capM f (wkF f) (i + 1) from ⟨by omega, rfl⟩))
            · (repeat' (first | exact all_mt | refine all_up ?_ ?_)) <;> first | exact .inl ⟨rfl, rfl⟩ | exact .inr ⟨rfl, fun _ h => by cases h⟩ | exact .inl ⟨rfl, by first | rfl | assumption | exact (intsC_pure _)⟩
            · (repeat' (first | exact all_mt | refine all_up ?_ ?_)) <;> first | exact ⟨rfl, _, rfl, .inr ⟨rfl, rfl⟩⟩ | exact ⟨rfl, _, rfl, .inl rfl⟩ | exact ⟨rfl, _, rfl, .inr ⟨rfl, by first | rfl | assumption | exact (intsC_pure _)⟩⟩
        · have g7 : decide ((i : Int) < (f.links.length : Int)) = false := decide_eq_false (by omega)
          repeat (refine W.seq ?_)
          refine W.region 48 49 (by decide) rfl rfl ?_
          refine RW.opd rfl rfl (LO.lss rfl rfl rfl) ?_
          refine RW.nil ?_
          repeat (refine W.seq ?_)
          refine W.cond_f rfl (by first | rfl | assumption) ?_
          refine W.exit ?_
          obtain rfl : i = f.links.length := by omega
          clear ihA hc2 g7 hi
          have hS := Sent.start (B := 1048576) (B' := 100000000) (by omega) hL (by omega) an bn
          rw [← hn] at hS
          have hcap := capK_bd hL (fun x => decide (x = an)) f.links.length
          rw [show capK f (wkF f) (fun x => decide (x = an)) f.links.length = capC f (wkF f) (fun x => decide (x = an)) from rfl] at hcap
          have hnab : bn ≠ an := fun e => hab (by rw [e])
          repeat (refine W.seq ?_)
          refine W.region 110 111 (by decide) rfl rfl ?_
          refine RW.opd rfl rfl (LO.assign rfl rfl) ?_
          refine RW.nil ?_
          repeat (refine W.seq ?_)
          refine W.block ?_
          refine W.rename [(0, 0), (1, 1)] 2 (T' := up (up (up (up mt 1 (some (.base (.int .i64 (an : Int))))) 2 (some (.base (.int .i64 (bn : Int))))) 7 (some (.own 1 0))) 10 (some (.base (.int .i64 0)))) (H' := up (up mt 0 (some (fabC f))) 1 (some (intsC nn))) (by decide) ?_ ?_ ?_
          · (repeat' (first | exact all_mt | refine all_up ?_ ?_)) <;> first | exact .inl ⟨rfl, rfl⟩ | exact .inr ⟨rfl, fun _ h => by cases h⟩ | exact .inl ⟨rfl, by first | rfl | assumption | exact (intsC_pure _)⟩
          · (repeat' (first | exact all_mt | refine all_up ?_ ?_)) <;> first | exact ⟨rfl, _, rfl, .inr ⟨rfl, rfl⟩⟩ | exact ⟨rfl, _, rfl, .inl rfl⟩ | exact ⟨rfl, _, rfl, .inr ⟨rfl, by first | rfl | assumption | exact (intsC_pure _)⟩⟩
          refine W.loop_ind (α := Int × List Int) (fun x => (capC f (wkF f) (fun y => decide (y = an)) - x.1).toNat) 2 (fun x => up (up (up (up mt 1 (some (.base (.int .i64 (an : Int))))) 2 (some (.base (.int .i64 (bn : Int))))) 7 (some (.own 1 0))) 10 (some (.base (.int .i64 x.1)))) (fun x => up (up mt 0 (some (fabC f))) 1 (some (intsC x.2))) (fun x => Sent f (wkF f) 100000000 an bn x.1 x.2 ∧ 0 ≤ x.1) (0, nn) (show Sent f (wkF f) 100000000 an bn 0 nn ∧ 0 ≤ 0 from ⟨hS, Int.le_refl _⟩) ?_
          rintro ⟨s, nn⟩ hIB ihB
          try (dsimp only at hIB)
          try dsimp only
          obtain ⟨hS, hs0⟩ := hIB
          have hcut := hS.cut (fun y => decide (y = an)) (by simp) (by simpa using hnab)
          have hcn := cutS_nonneg hS.toLeft (fun y => decide (y = an))
          obtain ⟨v, H', hcall, c, n2, hOK, rfl, rfl⟩ := augment_any nn an bn 100000000 hS.toLeft (by omega) (by omega) (by omega) (fun e => hnab e.symm)
          repeat (refine W.seq ?_)
          refine W.block ?_
          repeat (refine W.seq ?_)
          refine W.region 115 119 (by decide) rfl rfl ?_
          refine RW.opd rfl rfl (LO.move rfl rfl) ?_
          refine RW.opd rfl rfl (LO.move rfl rfl) ?_
          have hne : intsC nn ≠ [] := fun e => by have := congrArg List.length e; rw [intsC_len, hS.len] at this; cases this
          refine RW.opd rfl rfl (LO.call1 (fr := []) rfl rfl (hcall) fok46 (.own rfl rfl (.cons rfl (.pure rfl) (.cons rfl (.pure rfl) .nil))) rfl (intsC_pure _) (intsC_pure _) hne (by decide) rfl) ?_
          refine RW.opd rfl rfl (LO.assign rfl rfl) ?_
          refine RW.nil ?_
          rcases hOK with ⟨rfl, rfl, fr, dn, u, hA, hfb⟩ | ⟨hc0, fr, p, hp, hnd, hpp, hle, rfl⟩
          · have hfl := hS.stop hA (by omega) hfb
            rw [← flow_min hL (by omega) (by omega) (fun e => hnab e.symm) hfl] at hv
            have g8 : ((0 : Int) == 0) = true := rfl
            repeat (refine W.seq ?_)
            refine W.region 123 125 (by decide) rfl rfl ?_
            refine RW.opd rfl rfl (LO.move rfl rfl) ?_
            refine RW.opd rfl rfl (LO.eql rfl rfl rfl) ?_
            refine RW.nil ?_
            repeat (refine W.seq ?_)
            refine W.cond_t rfl (by first | rfl | assumption) ?_
            repeat (refine W.seq ?_)
            refine W.region 129 131 (by decide) rfl rfl ?_
            refine RW.opd rfl rfl (LO.move rfl rfl) ?_
            refine RW.opd rfl rfl (LO.assign rfl rfl) ?_
            refine RW.nil ?_
            repeat (refine W.seq ?_)
            refine W.ret ⟨.inl rfl, _, mt, RVs.cons (RV.tmp rfl) (RVs.nil), all_mt, ?_⟩
            exact ⟨by rw [hv]; rfl, rfl⟩
          · have hS2 := hS.more (by omega) hp hnd hpp (by omega) hle
            have hcut2 := hS2.cut (fun y => decide (y = an)) (by simp) (by simpa using hnab)
            have hcn2 := cutS_nonneg hS2.toLeft (fun y => decide (y = an))
            have g8 : (c == 0) = false := by simp; omega
            repeat (refine W.seq ?_)
            refine W.region 123 125 (by decide) rfl rfl ?_
            refine RW.opd rfl rfl (LO.move rfl rfl) ?_
            refine RW.opd rfl rfl (LO.eql rfl rfl rfl) ?_
            refine RW.nil ?_
            repeat (refine W.seq ?_)
            refine W.cond_f rfl (by first | rfl | assumption) ?_
            refine W.skip ?_
            repeat (refine W.seq ?_)
            refine W.region 135 139 (by decide) rfl rfl ?_
            refine RW.opd rfl rfl (LO.move rfl rfl) ?_
            refine RW.opd rfl rfl (LO.move rfl rfl) ?_
            refine RW.opd rfl rfl (LO.add_in rfl rfl rfl ?_) ?_; (· (first | exact IntWalk.i64_in _ (by omega) | assumption))
            refine RW.opd rfl rfl (LO.assign rfl rfl) ?_
            refine RW.nil ?_
            refine WL.rename [(0, 0), (1, 1)] 2 (by decide) ?_ ?_ (ihB ((s + c), (sendP fr c nn p)) (show (capC f (wkF f) (fun y => decide (y = an)) - (s + c)).toNat < (capC f (wkF f) (fun y => decide (y = an)) - s).toNat from by omega) (show Sent f (wkF f) 100000000 an bn (s + c) (sendP fr c nn p) ∧ 0 ≤ (s + c) from ⟨hS2, by omega⟩))
            · (repeat' (first | exact all_mt | refine all_up ?_ ?_)) <;> first | exact .inl ⟨rfl, rfl⟩ | exact .inr ⟨rfl, fun _ h => by cases h⟩ | exact .inl ⟨rfl, by first | rfl | assumption | exact (intsC_pure _)⟩
            · (repeat' (first | exact all_mt | refine all_up ?_ ?_)) <;> first | exact ⟨rfl, _, rfl, .inr ⟨rfl, rfl⟩⟩ | exact ⟨rfl, _, rfl, .inl rfl⟩ | exact ⟨rfl, _, rfl, .inr ⟨rfl, by first | rfl | assumption | exact (intsC_pure _)⟩⟩
end Go.Proofs.Ythbdngfnbpkefaa
