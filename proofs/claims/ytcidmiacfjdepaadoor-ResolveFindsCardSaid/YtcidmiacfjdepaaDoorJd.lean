/-
  Prefixes: the document's making of one, whether it holds an address, its last address.
-/
import Derived.Test.YtcidmiacfjdepaaDoorJa
import Derived.Test.YtcidmiacfjdepaaDoorQf
namespace Go.Proofs.YtcidmiacfjdepaaDoor
open Go.RowKit

def widthA (a : Ad) : Int := if a.v6 then 128 else 32
theorem width_any (a : Ad) : AFn Tryd.prog 102 0 [.agg (adC a)] mt (.base (.int .i64 (widthA a))) mt := by
  refine AFn.eq Tryd.func102 rfl rfl (Nat.le_of_ble_eq_true rfl) ?_
  unfold adC
  repeat (refine W.seq ?_)
  refine W.region 0 2 (by decide) rfl rfl ?_
  refine RW.opd rfl rfl (LO.box rfl rfl rfl) ?_
  refine RW.opd rfl rfl (LO.assign rfl rfl) ?_
  refine RW.nil ?_
  repeat (refine W.seq ?_)
  refine W.region 6 8 (by decide) rfl rfl ?_
  refine RW.opd rfl rfl (LO.fieldAddr rfl rfl ty25 rfl (by decide)) ?_
  refine RW.opd rfl rfl (LO.load rfl rfl rfl rfl ty4 rfl) ?_
  refine RW.nil ?_
  repeat (refine W.seq ?_)
  refine W.cond rfl (fun hb1 => ?_) (fun hb1 => ?_)
  ·
    try (have hb1p := of_decide_eq_true hb1)
    try (have hb1q := eq_of_beq hb1)
    repeat (refine W.seq ?_)
    refine W.region 12 13 (by decide) rfl rfl ?_
    refine RW.opd rfl rfl (LO.assign rfl rfl) ?_
    refine RW.nil ?_
    repeat (refine W.seq ?_)
    refine W.ret ⟨.inl rfl, _, mt, RVs.cons (RV.tmp rfl) (RVs.nil), all_mt, ?_⟩
    exact ⟨by (simp_all [widthA, retOf]) <;> omega, rfl⟩
  ·
    try (have hb1p := of_decide_eq_false hb1)
    try (have hb1q := ne_of_beq_false hb1)
    repeat (refine W.seq ?_)
    refine W.skip ?_
    repeat (refine W.seq ?_)
    refine W.region 17 18 (by decide) rfl rfl ?_
    refine RW.opd rfl rfl (LO.assign rfl rfl) ?_
    refine RW.nil ?_
    repeat (refine W.seq ?_)
    refine W.ret ⟨.inl rfl, _, mt, RVs.cons (RV.tmp rfl) (RVs.nil), all_mt, ?_⟩
    exact ⟨by (simp_all [widthA, retOf]) <;> omega, rfl⟩
/-- bit i as a byte -/
def bitAt (i : Nat) : Int := (128 : Int).fdiv (2 ^ (min ((i : Int) % 8).toNat IntKind.u8.bits))
def chgL (op : BinOp) (l : List Int) (i : Nat) : List Int := l.set (i / 8) (bitV op .u8 (gB l (i / 8)) (bitAt i))
def chgs (op : BinOp) (l : List Int) (n k : Nat) : List Int := (List.range' n k).foldl (chgL op) l
theorem chgs_snoc (op : BinOp) (l : List Int) (n k : Nat) : chgs op l n (k + 1) = chgL op (chgs op l n k) (n + k) := by
  unfold chgs
  rw [List.range'_concat, List.foldl_append]
  simp
theorem chgs_len (op : BinOp) (l : List Int) (n k : Nat) : (chgs op l n k).length = l.length := by
  induction k with
  | zero => rfl
  | succ k ih => rw [chgs_snoc, chgL, List.length_set, ih]
theorem bitV_u8 (op : BinOp) (x y : Int) : 0 ≤ bitV op .u8 x y ∧ bitV op .u8 x y ≤ 255 := by
  have h : ∀ z : Int, 0 ≤ IntKind.u8.wrap z ∧ IntKind.u8.wrap z ≤ 255 := fun z => by rw [IntKind.wrap_u8']; omega
  unfold bitV
  split <;> exact h _
theorem chgs_isB (op : BinOp) (l : List Int) (n k : Nat) (h : IsB l) : IsB (chgs op l n k) := by
  induction k with
  | zero => exact h
  | succ k ih =>
    rw [chgs_snoc]
    intro x hx
    rcases List.mem_or_eq_of_mem_set hx with h1 | h1
    · exact ih x h1
    · rw [h1]; exact bitV_u8 _ _ _
def mkL (op : BinOp) (a : Ad) (n : Nat) : List Int := chgs op (addrL a) n (8 * (addrL a).length - n)
def mkAd (op : BinOp) (a : Ad) (n : Nat) : Ad := ⟨a.v6, (fb (mkL op a n)).1, (fb (mkL op a n)).2⟩
def mkP (a : Ad) (n : Nat) : Pre := ⟨mkAd .andNot a n, n⟩
set_option maxHeartbeats 1000000 in
theorem make_any (a : Ad) (n : Nat) (hv : validA a.v6 a.hi a.lo = true) (h1 : U64 a.hi) (h2 : U64 a.lo) (hn : (n : Int) ≤ widthA a) : AFn Tryd.prog 92 0 [.agg (adC a), .base (.int .i64 (n : Int))] mt (.tup [.agg (preC (mkP a n)), .base (.int .i64 0)]) mt := by
  refine AFn.eq Tryd.func92 rfl rfl (Nat.le_of_ble_eq_true rfl) ?_
  have hva := rvalid_any a
  rw [hv] at hva
  have hwa := width_any a
  have hba := bytesX_any a hv h1 h2
  have hln := addrL_len a
  have hv6 : (((addrL a).length : Int) == 16) = a.v6 := by rw [hln]; cases a.v6 <;> rfl
  have hlv : (addrL a).length = 4 ∧ a.v6 = false ∨ (addrL a).length = 16 ∧ a.v6 = true := by
    rw [hln]; cases a.v6 <;> simp
  have hw : widthA a = 8 * ((addrL a).length : Int) := by
    unfold widthA
    rcases hlv with ⟨e1, e2⟩ | ⟨e1, e2⟩ <;> rw [e1, e2] <;> rfl
  have g0 : decide ((n : Int) < 0) = false := decide_eq_false (by omega)
  have g1 : decide ((n : Int) > widthA a) = false := decide_eq_false (by omega)
  have hB := addrL_isB a
  obtain ⟨b, hb⟩ : ∃ b, addrL a = b := ⟨_, rfl⟩
  have hmk : mkL .andNot a n = chgs .andNot b n (8 * b.length - n) := by unfold mkL; rw [hb]
  rw [hb] at hba hln hlv hw hB hv6
  repeat (refine W.seq ?_)
  refine W.region 0 3 (by decide) rfl rfl ?_
  refine RW.opd rfl rfl (LO.box rfl rfl rfl) ?_
  refine RW.opd rfl rfl (LO.alloc rfl ty27) ?_
  refine RW.opd rfl rfl (LO.assign rfl rfl) ?_
  refine RW.nil ?_
  repeat (refine W.seq ?_)
  refine W.block ?_
  repeat (refine W.seq ?_)
  refine W.region 7 11 (by decide) rfl rfl ?_
  refine RW.opd rfl rfl (LO.load_agg rfl rfl rfl ty25 rfl (Tk.lit rfl)) ?_
  refine RW.opd rfl rfl (LO.call0 (fr := []) rfl rfl (hva) fok49 (.cons rfl (.pure rfl) .nil) rfl) ?_
  refine RW.opd rfl rfl (LO.not rfl rfl) ?_
  refine RW.opd rfl rfl (LO.assign rfl rfl) ?_
  refine RW.nil ?_
  repeat (refine W.seq ?_)
  refine W.cond_f rfl (by first | rfl | assumption) ?_
  repeat (refine W.seq ?_)
  refine W.region 22 31 (by decide) rfl rfl ?_
  refine RW.opd rfl rfl (LO.move rfl rfl) ?_
  refine RW.opd rfl rfl (LO.lss rfl rfl rfl) ?_
  refine RW.opd rfl rfl (LO.move rfl rfl) ?_
  refine RW.gd rfl rfl rfl ?_ rfl (LO.move rfl rfl) ?_; (· (first | rfl | assumption))
  refine RW.gd rfl rfl rfl ?_ rfl (LO.load_agg rfl rfl rfl ty25 rfl (Tk.lit rfl)) ?_; (· (first | rfl | assumption))
  refine RW.gd rfl rfl rfl ?_ rfl (LO.call0 (fr := []) rfl rfl (hwa) fok102 (.cons rfl (.pure rfl) .nil) rfl) ?_; (· (first | rfl | assumption))
  refine RW.gd rfl rfl rfl ?_ rfl (LO.gtr rfl rfl rfl) ?_; (· (first | rfl | assumption))
  refine RW.opd rfl rfl (LO.pick_f rfl rfl ?_ rfl) ?_; (· (first | rfl | assumption))
  refine RW.opd rfl rfl (LO.assign rfl rfl) ?_
  refine RW.nil ?_
  repeat (refine W.seq ?_)
  refine W.cond_f rfl (by first | rfl | assumption) ?_
  refine W.skip ?_
  repeat (refine W.seq ?_)
  refine W.region 42 45 (by decide) rfl rfl ?_
  refine RW.opd rfl rfl (LO.load_agg rfl rfl rfl ty25 rfl (Tk.lit rfl)) ?_
  refine RW.opd rfl rfl (LO.callO (fr := []) rfl rfl (hba) fok30 (.cons rfl (.pure rfl) .nil) (bytesC_pure _) (by decide)) ?_
  refine RW.opd rfl rfl (LO.assign rfl rfl) ?_
  refine RW.nil ?_
  repeat (refine W.seq ?_)
  refine W.region 49 51 (by decide) rfl rfl ?_
  refine RW.opd rfl rfl (LO.move rfl rfl) ?_
  refine RW.opd rfl rfl (LO.assign rfl rfl) ?_
  refine RW.nil ?_
  rw [show b = chgs .andNot b n 0 from rfl]
  rw [show (n : Int) = ((n + 0 : Nat) : Int) from rfl]
  have hl0 := chgs_len .andNot b n 0
  rw [hl0]
  repeat (refine W.seq ?_)
  refine W.block ?_
  refine W.rename [(0, 0), (1, 43), (2, 1)] 3 (T' := up (up (up (up (up mt 1 (some (.base (.int .i64 (n : Int))))) 2 (some (.own 0 0))) 4 (some (.own 2 0))) 6 (some (.osl 1 0 b.length 1))) 7 (some (.base (.int .i64 ((n + 0 : Nat) : Int))))) (H' := up (up (up mt 0 (some (adC a))) 1 (some (bytesC (chgs .andNot b n 0)))) 2 (some (preC ⟨⟨false, 0, 0⟩, 0⟩))) (by decide) ?_ ?_ ?_
  · (repeat' (first | exact all_mt | refine all_up ?_ ?_)) <;> first | exact .inl ⟨rfl, rfl⟩ | exact .inr ⟨rfl, fun _ h => by cases h⟩ | exact .inl ⟨rfl, by first | rfl | assumption | exact (bytesC_pure _)⟩
  · (repeat' (first | exact all_mt | refine all_up ?_ ?_)) <;> first | exact ⟨rfl, _, rfl, .inr ⟨rfl, rfl⟩⟩ | exact ⟨rfl, _, rfl, .inl rfl⟩ | exact ⟨rfl, _, rfl, .inr ⟨rfl, by first | rfl | assumption | exact (bytesC_pure _)⟩⟩
  refine W.loop_ind (α := Nat) (fun x => 8 * b.length - n - x) 3 (fun x => up (up (up (up (up mt 1 (some (.base (.int .i64 (n : Int))))) 2 (some (.own 0 0))) 4 (some (.own 2 0))) 6 (some (.osl 1 0 b.length 1))) 7 (some (.base (.int .i64 ((n + x : Nat) : Int))))) (fun x => up (up (up mt 0 (some (adC a))) 1 (some (bytesC (chgs .andNot b n x)))) 2 (some (preC ⟨⟨false, 0, 0⟩, 0⟩))) (fun x => n + x ≤ 8 * b.length) 0 (show n + 0 ≤ 8 * b.length from by omega) ?_
  rintro k hIA ihA
  try (dsimp only at hIA)
  try dsimp only
  have hlk := chgs_len .andNot b n k
  by_cases hc : n + k < 8 * b.length
  · have g2 : decide (((n + k : Nat) : Int) < 8 * (b.length : Int)) = true := decide_eq_true (by omega)
    repeat (refine W.seq ?_)
    refine W.region 55 60 (by decide) rfl rfl ?_
    refine RW.opd rfl rfl (LO.move rfl rfl) ?_
    refine RW.opd rfl rfl (LO.move rfl rfl) ?_
    refine RW.opd rfl rfl (LO.len rfl rfl ty46) ?_
    refine RW.opd rfl rfl (LO.mul_in rfl rfl rfl ?_) ?_; (· (first | exact IntWalk.i64_in _ (by omega) | assumption))
    refine RW.opd rfl rfl (LO.lss rfl rfl rfl) ?_
    refine RW.nil ?_
    repeat (refine W.seq ?_)
    refine W.cond_t rfl (by first | rfl | assumption) ?_
    refine W.skip ?_
    repeat (refine W.seq ?_)
    refine W.block ?_
    have hq : ((n + k : Nat) : Int) / 8 = (((n + k) / 8 : Nat) : Int) := by omega
    have hj : (n + k) / 8 < b.length := by omega
    repeat (refine W.seq ?_)
    refine W.region 64 76 (by decide) rfl rfl ?_
    refine RW.opd rfl rfl (LO.move rfl rfl) ?_
    refine RW.opd rfl rfl (LO.move rfl rfl) ?_
    refine RW.opd rfl rfl (LO.quo_in rfl rfl rfl ?_ ?_ ?_) ?_; (· (first | omega | decide | assumption | fail | (simp; done) | (simp; omega))); (· (first | omega | decide | assumption | fail | (simp; done) | (simp; omega))); (· (first | exact IntWalk.i64_in _ (by omega) | assumption))
    refine RW.opd rfl rfl (LO.indexAddr rfl rfl rfl hq ty46 ty5 hj) ?_
    refine RW.opd rfl rfl (LO.load rfl rfl rfl (by_at0 (by rw [hlk]; exact hj)) ty5 rfl) ?_
    refine RW.opd rfl rfl (LO.move rfl rfl) ?_
    refine RW.opd rfl rfl (LO.rem_in rfl rfl rfl ?_ ?_) ?_; (· (first | omega)); (· (first | omega | decide | assumption | fail | (simp; done) | (simp; omega)))
    refine RW.opd rfl rfl (LO.conv_in rfl rfl ty3 ty112 ?_) ?_; (· (first | exact IntWalk.u64_in _ (by omega) | assumption))
    refine RW.opd rfl rfl (LO.shr rfl rfl rfl ?_) ?_; (· (first | omega | decide | assumption | fail | (simp; done) | (simp; omega)))
    refine RW.opd rfl rfl (LO.andNot rfl rfl rfl) ?_
    refine RW.opd rfl rfl (LO.indexAddr rfl rfl rfl hq ty46 ty5 hj) ?_
    refine RW.opn rfl rfl (LO.store rfl rfl rfl rfl rfl ty5 rfl (by decide) (by_sp (by rw [hlk]; exact hj))) ?_
    refine RW.nil ?_
    rw [show (chgs .andNot b n k).set ((n + k) / 8) (bitV .andNot .u8 (gB (chgs .andNot b n k) ((n + k) / 8)) ((128 : Int).fdiv (2 ^ (min (((n + k : Nat) : Int) % 8).toNat IntKind.u8.bits)))) = chgs .andNot b n (k + 1) from (chgs_snoc _ _ _ _).symm]
    repeat (refine W.seq ?_)
    refine W.region 80 83 (by decide) rfl rfl ?_
    refine RW.opd rfl rfl (LO.move rfl rfl) ?_
    refine RW.opd rfl rfl (LO.add_in rfl rfl rfl ?_) ?_; (· (first | exact IntWalk.i64_in _ (by omega) | assumption))
    refine RW.opd rfl rfl (LO.assign rfl rfl) ?_
    refine RW.nil ?_
    rw [show ((n + k : Nat) : Int) + 1 = ((n + (k + 1) : Nat) : Int) from by omega]
    refine WL.rename [(0, 0), (1, 1), (2, 2)] 3 (by decide) ?_ ?_ (ihA (k + 1) (show 8 * b.length - n - (k + 1) < 8 * b.length - n - k from by omega) (show n + (k + 1) ≤ 8 * b.length from by omega))
    · (repeat' (first | exact all_mt | refine all_up ?_ ?_)) <;> first | exact .inl ⟨rfl, rfl⟩ | exact .inr ⟨rfl, fun _ h => by cases h⟩ | exact .inl ⟨rfl, by first | rfl | assumption | exact (bytesC_pure _)⟩
    · (repeat' (first | exact all_mt | refine all_up ?_ ?_)) <;> first | exact ⟨rfl, _, rfl, .inr ⟨rfl, rfl⟩⟩ | exact ⟨rfl, _, rfl, .inl rfl⟩ | exact ⟨rfl, _, rfl, .inr ⟨rfl, by first | rfl | assumption | exact (bytesC_pure _)⟩⟩
  · have g2 : decide (((n + k : Nat) : Int) < 8 * (b.length : Int)) = false := decide_eq_false (by omega)
    repeat (refine W.seq ?_)
    refine W.region 55 60 (by decide) rfl rfl ?_
    refine RW.opd rfl rfl (LO.move rfl rfl) ?_
    refine RW.opd rfl rfl (LO.move rfl rfl) ?_
    refine RW.opd rfl rfl (LO.len rfl rfl ty46) ?_
    refine RW.opd rfl rfl (LO.mul_in rfl rfl rfl ?_) ?_; (· (first | exact IntWalk.i64_in _ (by omega) | assumption))
    refine RW.opd rfl rfl (LO.lss rfl rfl rfl) ?_
    refine RW.nil ?_
    repeat (refine W.seq ?_)
    refine W.cond_f rfl (by first | rfl | assumption) ?_
    refine W.exit ?_
    clear ihA
    obtain rfl : k = 8 * b.length - n := by omega
    rw [show n + (8 * b.length - n) = 8 * b.length from by omega]
    have hlk' := hlk
    have hfr := fromX_any (chgs .andNot b n (8 * b.length - n)) (chgs_isB _ _ _ _ hB) (by rw [hlk]; omega)
    rw [hlk] at hfr
    repeat (refine W.seq ?_)
    refine W.region 87 95 (by decide) rfl rfl ?_
    refine RW.opd rfl rfl (LO.move rfl rfl) ?_
    refine RW.opd rfl rfl (LO.call0 (fr := [1]) rfl rfl (hfr) fok93 (.cons rfl (.one (.osl (by decide) rfl (bytes_tk hlk) (bytesC_pure _))) .nil) rfl) ?_
    refine RW.opd rfl rfl (LO.move rfl rfl) ?_
    refine RW.opd rfl rfl (LO.extract rfl rfl rfl) ?_
    refine RW.opd rfl rfl (LO.extract rfl rfl rfl) ?_
    refine RW.opd rfl rfl (LO.alloc rfl ty25) ?_
    refine RW.opn rfl rfl (LO.store rfl rfl rfl rfl rfl ty25 rfl (by decide) (Sp.lit rfl)) ?_
    refine RW.opd rfl rfl (LO.assign rfl rfl) ?_
    refine RW.nil ?_
    repeat (refine W.seq ?_)
    refine W.region 99 104 (by decide) rfl rfl ?_
    refine RW.opd rfl rfl (LO.load_agg rfl rfl rfl ty25 rfl (Tk.lit rfl)) ?_
    refine RW.opd rfl rfl (LO.move rfl rfl) ?_
    refine RW.opd rfl rfl (LO.build_st rfl ty27 (.cons rfl rfl rfl rfl (Sp.lit rfl) (.cons rfl rfl rfl rfl (Sp.lit rfl) .nil))) ?_
    refine RW.opn rfl rfl (LO.store rfl rfl rfl rfl rfl ty27 rfl (by decide) (Sp.lit rfl)) ?_
    refine RW.opd rfl rfl (LO.assign rfl rfl) ?_
    refine RW.nil ?_
    repeat (refine W.seq ?_)
    refine W.ret ⟨.inl rfl, _, mt, (RVs.cons (RV.cellA rfl rfl ty27 rfl (Tk.lit rfl)) (RVs.cons (RV.tmp rfl) RVs.nil)), (by (repeat' (first | exact all_mt | refine all_up ?_ ?_)) <;> rfl), ?_⟩
    exact ⟨by rw [← hmk, hv6]; rfl, rfl⟩
def eqPre (a b : Pre) : Bool := eqA a.ad b.ad && a.len == b.len
theorem eqPre_in (d : Nat) (a b : Pre) (w : World) : (Op.equalIn (d + 3) 27 (.agg #[.bool a.ad.v6, .int .u64 a.ad.hi, .int .u64 a.ad.lo, .int .i64 a.len]) (.agg #[.bool b.ad.v6, .int .u64 b.ad.hi, .int .u64 b.ad.lo, .int .i64 b.len])).run Tryd.prog w = .ok (eqPre a b) w := by
  rw [run_equalIn_struct w (d + 2) 27 _ _ (by kernel_rfl) (by kernel_rfl)]
  have hu := Tryd.underlying27
  have hua := Tryd.underlying25
  have hi := Tryd.underlying3
  have sa : ∀ w : World, (sizeOf 25).run Tryd.prog w = .ok 3 w := fun w => (ty25).sizeOf w
  have ea := fun w => eqAd_in d a.ad b.ad w
  simp [Program.fieldsOf, hu, Op.eqFields, part, isAgg, run_underlying hua, run_underlying hi, sa, run_equalIn_int _ _ _ _ _ _ _ hi, ea]
  unfold eqPre
  by_cases h : a.len = b.len <;> cases eqA a.ad b.ad <;> simp [h]
theorem LO.eql_pre {o : Oper} {E : Operand → Option AV} {H : Hp} {f : Nat} {ty : TypeId} {x y : Operand} (a b : Pre) (ho : o.op = .binOp .eql 27 x y ty) (hx : E x = some (.agg (preC a))) (hy : E y = some (.agg (preC b))) : LO Tryd.prog o E H f [] [] (.base (.bool (eqPre a b))) H :=
  LO.eq_bases false [.bool a.ad.v6, .int .u64 a.ad.hi, .int .u64 a.ad.lo, .int .i64 a.len] [.bool b.ad.v6, .int .u64 b.ad.hi, .int .u64 b.ad.lo, .int .i64 b.len] ho hx hy rfl rfl (guard_run x y false (by kernel_rfl)) (eqPre_in 9997 a b)
theorem pvalidX_any (p : Pre) (n : Nat) (hp : p.len = (n : Int)) (hv : validA p.ad.v6 p.ad.hi p.ad.lo = true) (h1 : U64 p.ad.hi) (h2 : U64 p.ad.lo) (hn : (n : Int) ≤ widthA p.ad) : AFn Tryd.prog 73 0 [.agg (preC p)] mt (.base (.bool (eqPre p (mkP p.ad n)))) mt := by
  refine AFn.eq Tryd.func73 rfl rfl (Nat.le_of_ble_eq_true rfl) ?_
  have hm := make_any p.ad n hv h1 h2 hn
  obtain ⟨q, hq⟩ : ∃ q, mkP p.ad n = q := ⟨_, rfl⟩
  rw [hq] at hm ⊢
  obtain ⟨a, l⟩ := p
  dsimp only at hp hm
  subst hp
  repeat (refine W.seq ?_)
  refine W.region 0 2 (by decide) rfl rfl ?_
  refine RW.opd rfl rfl (LO.box rfl rfl rfl) ?_
  refine RW.opd rfl rfl (LO.assign rfl rfl) ?_
  refine RW.nil ?_
  repeat (refine W.seq ?_)
  refine W.region 6 17 (by decide) rfl rfl ?_
  refine RW.opd rfl rfl (LO.fieldAddr rfl rfl ty27 rfl (by decide)) ?_
  refine RW.opd rfl rfl (LO.load_agg rfl rfl rfl ty25 rfl (Tk.lit rfl)) ?_
  refine RW.opd rfl rfl (LO.fieldAddr rfl rfl ty27 rfl (by decide)) ?_
  refine RW.opd rfl rfl (LO.load rfl rfl rfl rfl ty3 rfl) ?_
  refine RW.opd rfl rfl (LO.call0 (fr := []) rfl rfl (hm) fok92 (.cons rfl (.pure rfl) (.cons rfl (.pure rfl) .nil)) rfl) ?_
  refine RW.opd rfl rfl (LO.move rfl rfl) ?_
  refine RW.opd rfl rfl (LO.extract rfl rfl rfl) ?_
  refine RW.opd rfl rfl (LO.extract rfl rfl rfl) ?_
  refine RW.opd rfl rfl (LO.alloc rfl ty27) ?_
  refine RW.opn rfl rfl (LO.store rfl rfl rfl rfl rfl ty27 rfl (by decide) (Sp.lit rfl)) ?_
  refine RW.opd rfl rfl (LO.assign rfl rfl) ?_
  refine RW.nil ?_
  repeat (refine W.seq ?_)
  refine W.region 21 29 (by decide) rfl rfl ?_
  refine RW.opd rfl rfl (LO.move rfl rfl) ?_
  refine RW.opd rfl rfl (LO.eql rfl rfl rfl) ?_
  refine RW.opd rfl rfl (LO.move rfl rfl) ?_
  refine RW.gd rfl rfl rfl ?_ rfl (LO.load_agg rfl rfl rfl ty27 rfl (Tk.lit rfl)) ?_; (· (first | rfl | assumption))
  refine RW.gd rfl rfl rfl ?_ rfl (LO.load_agg rfl rfl rfl ty27 rfl (Tk.lit rfl)) ?_; (· (first | rfl | assumption))
  refine RW.gd rfl rfl rfl ?_ rfl (LO.eql_pre ⟨a, (n : Int)⟩ q rfl rfl rfl) ?_; (· (first | rfl | assumption))
  refine RW.opd rfl rfl (LO.pick_t rfl rfl ?_ rfl) ?_; (· (first | rfl | assumption))
  refine RW.opd rfl rfl (LO.assign rfl rfl) ?_
  refine RW.nil ?_
  repeat (refine W.seq ?_)
  refine W.ret ⟨.inl rfl, _, mt, RVs.cons (RV.tmp rfl) (RVs.nil), all_mt, ?_⟩
  exact ⟨rfl, rfl⟩
theorem containsX_any (p : Pre) (a : Ad) (n : Nat) (hp : p.len = (n : Int)) (hv : validA a.v6 a.hi a.lo = true) (h1 : U64 a.hi) (h2 : U64 a.lo) (hn : (n : Int) ≤ widthA a) : AFn Tryd.prog 77 0 [.agg (preC p), .agg (adC a)] mt (.base (.bool (eqPre (mkP a n) p))) mt := by
  refine AFn.eq Tryd.func77 rfl rfl (Nat.le_of_ble_eq_true rfl) ?_
  have hm := make_any a n hv h1 h2 hn
  obtain ⟨q, hq⟩ : ∃ q, mkP a n = q := ⟨_, rfl⟩
  rw [hq] at hm ⊢
  obtain ⟨b, l⟩ := p
  dsimp only at hp hm
  subst hp
  repeat (refine W.seq ?_)
  refine W.region 0 3 (by decide) rfl rfl ?_
  refine RW.opd rfl rfl (LO.box rfl rfl rfl) ?_
  refine RW.opd rfl rfl (LO.box rfl rfl rfl) ?_
  refine RW.opd rfl rfl (LO.assign rfl rfl) ?_
  refine RW.nil ?_
  repeat (refine W.seq ?_)
  refine W.region 7 17 (by decide) rfl rfl ?_
  refine RW.opd rfl rfl (LO.load_agg rfl rfl rfl ty25 rfl (Tk.lit rfl)) ?_
  refine RW.opd rfl rfl (LO.fieldAddr rfl rfl ty27 rfl (by decide)) ?_
  refine RW.opd rfl rfl (LO.load rfl rfl rfl rfl ty3 rfl) ?_
  refine RW.opd rfl rfl (LO.call0 (fr := []) rfl rfl (hm) fok92 (.cons rfl (.pure rfl) (.cons rfl (.pure rfl) .nil)) rfl) ?_
  refine RW.opd rfl rfl (LO.move rfl rfl) ?_
  refine RW.opd rfl rfl (LO.extract rfl rfl rfl) ?_
  refine RW.opd rfl rfl (LO.extract rfl rfl rfl) ?_
  refine RW.opd rfl rfl (LO.alloc rfl ty27) ?_
  refine RW.opn rfl rfl (LO.store rfl rfl rfl rfl rfl ty27 rfl (by decide) (Sp.lit rfl)) ?_
  refine RW.opd rfl rfl (LO.assign rfl rfl) ?_
  refine RW.nil ?_
  repeat (refine W.seq ?_)
  refine W.region 21 29 (by decide) rfl rfl ?_
  refine RW.opd rfl rfl (LO.move rfl rfl) ?_
  refine RW.opd rfl rfl (LO.eql rfl rfl rfl) ?_
  refine RW.opd rfl rfl (LO.move rfl rfl) ?_
  refine RW.gd rfl rfl rfl ?_ rfl (LO.load_agg rfl rfl rfl ty27 rfl (Tk.lit rfl)) ?_; (· (first | rfl | assumption))
  refine RW.gd rfl rfl rfl ?_ rfl (LO.load_agg rfl rfl rfl ty27 rfl (Tk.lit rfl)) ?_; (· (first | rfl | assumption))
  refine RW.gd rfl rfl rfl ?_ rfl (LO.eql_pre q ⟨b, (n : Int)⟩ rfl rfl rfl) ?_; (· (first | rfl | assumption))
  refine RW.opd rfl rfl (LO.pick_t rfl rfl ?_ rfl) ?_; (· (first | rfl | assumption))
  refine RW.opd rfl rfl (LO.assign rfl rfl) ?_
  refine RW.nil ?_
  repeat (refine W.seq ?_)
  refine W.ret ⟨.inl rfl, _, mt, RVs.cons (RV.tmp rfl) (RVs.nil), all_mt, ?_⟩
  exact ⟨rfl, rfl⟩
set_option maxHeartbeats 1000000 in
theorem last_any (p : Pre) (n : Nat) (hp : p.len = (n : Int)) (hv : validA p.ad.v6 p.ad.hi p.ad.lo = true) (h1 : U64 p.ad.hi) (h2 : U64 p.ad.lo) (hn : (n : Int) ≤ widthA p.ad) : AFn Tryd.prog 78 0 [.agg (preC p)] mt (.agg (adC (mkAd .or p.ad n))) mt := by
  refine AFn.eq Tryd.func78 rfl rfl (Nat.le_of_ble_eq_true rfl) ?_
  have hba := bytesX_any p.ad hv h1 h2
  obtain ⟨a, l⟩ := p
  dsimp only at hp hba hn ⊢
  subst hp
  have hln := addrL_len a
  have hv6 : (((addrL a).length : Int) == 16) = a.v6 := by rw [hln]; cases a.v6 <;> rfl
  have hlv : (addrL a).length = 4 ∧ a.v6 = false ∨ (addrL a).length = 16 ∧ a.v6 = true := by
    rw [hln]; cases a.v6 <;> simp
  have hw : widthA a = 8 * ((addrL a).length : Int) := by
    unfold widthA
    rcases hlv with ⟨e1, e2⟩ | ⟨e1, e2⟩ <;> rw [e1, e2] <;> rfl
  have hB := addrL_isB a
  obtain ⟨b, hb⟩ : ∃ b, addrL a = b := ⟨_, rfl⟩
  have hmk : mkL .or a n = chgs .or b n (8 * b.length - n) := by unfold mkL; rw [hb]
  rw [hb] at hba hln hlv hw hB hv6
  have hmax : (if (0 : Int) < (n : Int) then (n : Int) else 0) = (n : Int) := by split <;> omega
  repeat (refine W.seq ?_)
  refine W.region 0 2 (by decide) rfl rfl ?_
  refine RW.opd rfl rfl (LO.box rfl rfl rfl) ?_
  refine RW.opd rfl rfl (LO.alloc rfl ty25) ?_
  refine RW.nil ?_
  repeat (refine W.seq ?_)
  refine W.region 6 10 (by decide) rfl rfl ?_
  refine RW.opd rfl rfl (LO.fieldAddr rfl rfl ty27 rfl (by decide)) ?_
  refine RW.opd rfl rfl (LO.load_agg rfl rfl rfl ty25 rfl (Tk.lit rfl)) ?_
  refine RW.opd rfl rfl (LO.callO (fr := []) rfl rfl (hba) fok30 (.cons rfl (.pure rfl) .nil) (bytesC_pure _) (by decide)) ?_
  refine RW.opd rfl rfl (LO.assign rfl rfl) ?_
  refine RW.nil ?_
  repeat (refine W.seq ?_)
  refine W.region 14 18 (by decide) rfl rfl ?_
  refine RW.opd rfl rfl (LO.fieldAddr rfl rfl ty27 rfl (by decide)) ?_
  refine RW.opd rfl rfl (LO.load rfl rfl rfl rfl ty3 rfl) ?_
  refine RW.opd rfl rfl (LO.max rfl rfl rfl) ?_
  refine RW.opd rfl rfl (LO.assign rfl rfl) ?_
  refine RW.nil ?_
  rw [hmax]
  rw [show b = chgs .or b n 0 from rfl]
  rw [show (n : Int) = ((n + 0 : Nat) : Int) from rfl]
  have hl0 := chgs_len .or b n 0
  rw [hl0]
  repeat (refine W.seq ?_)
  refine W.block ?_
  refine W.rename [(0, 0), (1, 8), (2, 1)] 3 (T' := up (up (up (up mt 1 (some (.own 0 0))) 2 (some (.own 2 0))) 3 (some (.osl 1 0 b.length 1))) 4 (some (.base (.int .i64 ((n + 0 : Nat) : Int))))) (H' := up (up (up mt 0 (some (preC ⟨a, (n : Int)⟩))) 1 (some (bytesC (chgs .or b n 0)))) 2 (some (adC ⟨false, 0, 0⟩))) (by decide) ?_ ?_ ?_
  · (repeat' (first | exact all_mt | refine all_up ?_ ?_)) <;> first | exact .inl ⟨rfl, rfl⟩ | exact .inr ⟨rfl, fun _ h => by cases h⟩ | exact .inl ⟨rfl, by first | rfl | assumption | exact (bytesC_pure _)⟩
  · (repeat' (first | exact all_mt | refine all_up ?_ ?_)) <;> first | exact ⟨rfl, _, rfl, .inr ⟨rfl, rfl⟩⟩ | exact ⟨rfl, _, rfl, .inl rfl⟩ | exact ⟨rfl, _, rfl, .inr ⟨rfl, by first | rfl | assumption | exact (bytesC_pure _)⟩⟩
  refine W.loop_ind (α := Nat) (fun x => 8 * b.length - n - x) 3 (fun x => up (up (up (up mt 1 (some (.own 0 0))) 2 (some (.own 2 0))) 3 (some (.osl 1 0 b.length 1))) 4 (some (.base (.int .i64 ((n + x : Nat) : Int))))) (fun x => up (up (up mt 0 (some (preC ⟨a, (n : Int)⟩))) 1 (some (bytesC (chgs .or b n x)))) 2 (some (adC ⟨false, 0, 0⟩))) (fun x => n + x ≤ 8 * b.length) 0 (show n + 0 ≤ 8 * b.length from by omega) ?_
  rintro k hIA ihA
  try (dsimp only at hIA)
  try dsimp only
  have hlk := chgs_len .or b n k
  by_cases hc : n + k < 8 * b.length
  · have g2 : decide (((n + k : Nat) : Int) < 8 * (b.length : Int)) = true := decide_eq_true (by omega)
    repeat (refine W.seq ?_)
    refine W.region 22 27 (by decide) rfl rfl ?_
    refine RW.opd rfl rfl (LO.move rfl rfl) ?_
    refine RW.opd rfl rfl (LO.move rfl rfl) ?_
    refine RW.opd rfl rfl (LO.len rfl rfl ty46) ?_
    refine RW.opd rfl rfl (LO.mul_in rfl rfl rfl ?_) ?_; (· (first | exact IntWalk.i64_in _ (by omega) | assumption))
    refine RW.opd rfl rfl (LO.lss rfl rfl rfl) ?_
    refine RW.nil ?_
    repeat (refine W.seq ?_)
    refine W.cond_t rfl (by first | rfl | assumption) ?_
    refine W.skip ?_
    repeat (refine W.seq ?_)
    refine W.block ?_
    have hq : ((n + k : Nat) : Int) / 8 = (((n + k) / 8 : Nat) : Int) := by omega
    have hj : (n + k) / 8 < b.length := by omega
    repeat (refine W.seq ?_)
    refine W.region 31 43 (by decide) rfl rfl ?_
    refine RW.opd rfl rfl (LO.move rfl rfl) ?_
    refine RW.opd rfl rfl (LO.move rfl rfl) ?_
    refine RW.opd rfl rfl (LO.quo_in rfl rfl rfl ?_ ?_ ?_) ?_; (· (first | omega | decide | assumption | fail | (simp; done) | (simp; omega))); (· (first | omega | decide | assumption | fail | (simp; done) | (simp; omega))); (· (first | exact IntWalk.i64_in _ (by omega) | assumption))
    refine RW.opd rfl rfl (LO.indexAddr rfl rfl rfl hq ty46 ty5 hj) ?_
    refine RW.opd rfl rfl (LO.load rfl rfl rfl (by_at0 (by rw [hlk]; exact hj)) ty5 rfl) ?_
    refine RW.opd rfl rfl (LO.move rfl rfl) ?_
    refine RW.opd rfl rfl (LO.rem_in rfl rfl rfl ?_ ?_) ?_; (· (first | omega)); (· (first | omega | decide | assumption | fail | (simp; done) | (simp; omega)))
    refine RW.opd rfl rfl (LO.conv_in rfl rfl ty3 ty112 ?_) ?_; (· (first | exact IntWalk.u64_in _ (by omega) | assumption))
    refine RW.opd rfl rfl (LO.shr rfl rfl rfl ?_) ?_; (· (first | omega | decide | assumption | fail | (simp; done) | (simp; omega)))
    refine RW.opd rfl rfl (LO.or rfl rfl rfl) ?_
    refine RW.opd rfl rfl (LO.indexAddr rfl rfl rfl hq ty46 ty5 hj) ?_
    refine RW.opn rfl rfl (LO.store rfl rfl rfl rfl rfl ty5 rfl (by decide) (by_sp (by rw [hlk]; exact hj))) ?_
    refine RW.nil ?_
    rw [show (chgs .or b n k).set ((n + k) / 8) (bitV .or .u8 (gB (chgs .or b n k) ((n + k) / 8)) ((128 : Int).fdiv (2 ^ (min (((n + k : Nat) : Int) % 8).toNat IntKind.u8.bits)))) = chgs .or b n (k + 1) from (chgs_snoc _ _ _ _).symm]
    repeat (refine W.seq ?_)
    refine W.region 47 50 (by decide) rfl rfl ?_
    refine RW.opd rfl rfl (LO.move rfl rfl) ?_
    refine RW.opd rfl rfl (LO.add_in rfl rfl rfl ?_) ?_; (· (first | exact IntWalk.i64_in _ (by omega) | assumption))
    refine RW.opd rfl rfl (LO.assign rfl rfl) ?_
    refine RW.nil ?_
    rw [show ((n + k : Nat) : Int) + 1 = ((n + (k + 1) : Nat) : Int) from by omega]
    refine WL.rename [(0, 0), (1, 1), (2, 2)] 3 (by decide) ?_ ?_ (ihA (k + 1) (show 8 * b.length - n - (k + 1) < 8 * b.length - n - k from by omega) (show n + (k + 1) ≤ 8 * b.length from by omega))
    · (repeat' (first | exact all_mt | refine all_up ?_ ?_)) <;> first | exact .inl ⟨rfl, rfl⟩ | exact .inr ⟨rfl, fun _ h => by cases h⟩ | exact .inl ⟨rfl, by first | rfl | assumption | exact (bytesC_pure _)⟩
    · (repeat' (first | exact all_mt | refine all_up ?_ ?_)) <;> first | exact ⟨rfl, _, rfl, .inr ⟨rfl, rfl⟩⟩ | exact ⟨rfl, _, rfl, .inl rfl⟩ | exact ⟨rfl, _, rfl, .inr ⟨rfl, by first | rfl | assumption | exact (bytesC_pure _)⟩⟩
  · have g2 : decide (((n + k : Nat) : Int) < 8 * (b.length : Int)) = false := decide_eq_false (by omega)
    repeat (refine W.seq ?_)
    refine W.region 22 27 (by decide) rfl rfl ?_
    refine RW.opd rfl rfl (LO.move rfl rfl) ?_
    refine RW.opd rfl rfl (LO.move rfl rfl) ?_
    refine RW.opd rfl rfl (LO.len rfl rfl ty46) ?_
    refine RW.opd rfl rfl (LO.mul_in rfl rfl rfl ?_) ?_; (· (first | exact IntWalk.i64_in _ (by omega) | assumption))
    refine RW.opd rfl rfl (LO.lss rfl rfl rfl) ?_
    refine RW.nil ?_
    repeat (refine W.seq ?_)
    refine W.cond_f rfl (by first | rfl | assumption) ?_
    refine W.exit ?_
    clear ihA
    obtain rfl : k = 8 * b.length - n := by omega
    rw [show n + (8 * b.length - n) = 8 * b.length from by omega]
    have hfr := fromX_any (chgs .or b n (8 * b.length - n)) (chgs_isB _ _ _ _ hB) (by rw [hlk]; omega)
    rw [hlk] at hfr
    repeat (refine W.seq ?_)
    refine W.region 54 62 (by decide) rfl rfl ?_
    refine RW.opd rfl rfl (LO.move rfl rfl) ?_
    refine RW.opd rfl rfl (LO.call0 (fr := [1]) rfl rfl (hfr) fok93 (.cons rfl (.one (.osl (by decide) rfl (bytes_tk hlk) (bytesC_pure _))) .nil) rfl) ?_
    refine RW.opd rfl rfl (LO.move rfl rfl) ?_
    refine RW.opd rfl rfl (LO.extract rfl rfl rfl) ?_
    refine RW.opd rfl rfl (LO.extract rfl rfl rfl) ?_
    refine RW.opd rfl rfl (LO.alloc rfl ty25) ?_
    refine RW.opn rfl rfl (LO.store rfl rfl rfl rfl rfl ty25 rfl (by decide) (Sp.lit rfl)) ?_
    refine RW.opd rfl rfl (LO.assign rfl rfl) ?_
    refine RW.nil ?_
    repeat (refine W.seq ?_)
    refine W.region 66 68 (by decide) rfl rfl ?_
    refine RW.opd rfl rfl (LO.load_agg rfl rfl rfl ty25 rfl (Tk.lit rfl)) ?_
    refine RW.opn rfl rfl (LO.store rfl rfl rfl rfl rfl ty25 rfl (by decide) (Sp.lit rfl)) ?_
    refine RW.nil ?_
    repeat (refine W.seq ?_)
    refine W.ret ⟨.inl rfl, _, mt, (RVs.cons (RV.cellA rfl rfl ty25 rfl (Tk.lit rfl)) RVs.nil), (by (repeat' (first | exact all_mt | refine all_up ?_ ?_)) <;> rfl), ?_⟩
    exact ⟨by unfold mkAd; rw [hmk, hv6]; rfl, rfl⟩
def lan4 : Pre := ⟨⟨false, 0, 3221225984⟩, 24⟩
def lan6 : Pre := ⟨⟨true, 2306139568115548160, 0⟩, 64⟩
theorem lan4_any : AFn Tryd.prog 21 0 [] mt (.agg (preC lan4)) mt := by
  refine AFn.eq Tryd.func21 rfl rfl (Nat.le_of_ble_eq_true rfl) ?_
  repeat (refine W.seq ?_)
  refine W.region 0 1 (by decide) rfl rfl ?_
  refine RW.opd rfl rfl (LO.alloc rfl ty27) ?_
  refine RW.nil ?_
  repeat (refine W.seq ?_)
  refine W.region 5 8 (by decide) rfl rfl ?_
  refine RW.opd rfl rfl (LO.build_st rfl ty25 (.cons rfl rfl rfl rfl (Sp.lit rfl) .nil)) ?_
  refine RW.opd rfl rfl (LO.build_st rfl ty27 (.cons rfl rfl rfl rfl (Sp.lit rfl) (.cons rfl rfl rfl rfl (Sp.lit rfl) .nil))) ?_
  refine RW.opn rfl rfl (LO.store rfl rfl rfl rfl rfl ty27 rfl (by decide) (Sp.lit rfl)) ?_
  refine RW.nil ?_
  repeat (refine W.seq ?_)
  refine W.ret ⟨.inl rfl, _, mt, (RVs.cons (RV.cellA rfl rfl ty27 rfl (Tk.lit rfl)) RVs.nil), (by (repeat' (first | exact all_mt | refine all_up ?_ ?_)) <;> rfl), ?_⟩
  exact ⟨rfl, rfl⟩
theorem lan6_any : AFn Tryd.prog 22 0 [] mt (.agg (preC lan6)) mt := by
  refine AFn.eq Tryd.func22 rfl rfl (Nat.le_of_ble_eq_true rfl) ?_
  repeat (refine W.seq ?_)
  refine W.region 0 1 (by decide) rfl rfl ?_
  refine RW.opd rfl rfl (LO.alloc rfl ty27) ?_
  refine RW.nil ?_
  repeat (refine W.seq ?_)
  refine W.region 5 8 (by decide) rfl rfl ?_
  refine RW.opd rfl rfl (LO.build_st rfl ty25 (.cons rfl rfl rfl rfl (Sp.lit rfl) (.cons rfl rfl rfl rfl (Sp.lit rfl) .nil))) ?_
  refine RW.opd rfl rfl (LO.build_st rfl ty27 (.cons rfl rfl rfl rfl (Sp.lit rfl) (.cons rfl rfl rfl rfl (Sp.lit rfl) .nil))) ?_
  refine RW.opn rfl rfl (LO.store rfl rfl rfl rfl rfl ty27 rfl (by decide) (Sp.lit rfl)) ?_
  refine RW.nil ?_
  repeat (refine W.seq ?_)
  refine W.ret ⟨.inl rfl, _, mt, (RVs.cons (RV.cellA rfl rfl ty27 rfl (Tk.lit rfl)) RVs.nil), (by (repeat' (first | exact all_mt | refine all_up ?_ ?_)) <;> rfl), ?_⟩
  exact ⟨rfl, rfl⟩
def fourA (n : Int) : Ad := ⟨false, 0, 3221225985 + n⟩
def sixA (n : Int) : Ad := ⟨true, 2306139568115548160, 1 + n⟩
theorem fourM_any (n : Int) (h0 : 0 ≤ n) (h1 : n ≤ 1000) : AFn Tryd.prog 41 0 [.base (.int .i64 n)] mt (.agg (adC (fourA n))) mt := by
  refine AFn.eq Tryd.func41 rfl rfl (Nat.le_of_ble_eq_true rfl) ?_
  repeat (refine W.seq ?_)
  refine W.region 0 1 (by decide) rfl rfl ?_
  refine RW.opd rfl rfl (LO.alloc rfl ty25) ?_
  refine RW.nil ?_
  repeat (refine W.seq ?_)
  refine W.region 5 11 (by decide) rfl rfl ?_
  refine RW.opd rfl rfl (LO.move rfl rfl) ?_
  refine RW.opd rfl rfl (LO.add_in rfl rfl rfl ?_) ?_; (· (first | exact IntWalk.i64_in _ (by omega) | assumption))
  refine RW.opd rfl rfl (LO.conv_in rfl rfl ty3 ty23 ?_) ?_; (· (first | exact IntWalk.u64_in _ (by omega) | assumption))
  refine RW.opd rfl rfl (LO.add_in rfl rfl rfl ?_) ?_; (· (first | exact IntWalk.u64_in _ (by omega) | assumption))
  refine RW.opd rfl rfl (LO.build_st rfl ty25 (.cons rfl rfl rfl rfl (Sp.lit rfl) .nil)) ?_
  refine RW.opn rfl rfl (LO.store rfl rfl rfl rfl rfl ty25 rfl (by decide) (Sp.lit rfl)) ?_
  refine RW.nil ?_
  repeat (refine W.seq ?_)
  refine W.ret ⟨.inl rfl, _, mt, (RVs.cons (RV.cellA rfl rfl ty25 rfl (Tk.lit rfl)) RVs.nil), (by (repeat' (first | exact all_mt | refine all_up ?_ ?_)) <;> rfl), ?_⟩
  exact ⟨by rw [show (3221225984 : Int) + (1 + n) = 3221225985 + n from by omega]; rfl, rfl⟩
theorem sixM_any (n : Int) (h0 : 0 ≤ n) (h1 : n ≤ 1000) : AFn Tryd.prog 42 0 [.base (.int .i64 n)] mt (.agg (adC (sixA n))) mt := by
  refine AFn.eq Tryd.func42 rfl rfl (Nat.le_of_ble_eq_true rfl) ?_
  repeat (refine W.seq ?_)
  refine W.region 0 1 (by decide) rfl rfl ?_
  refine RW.opd rfl rfl (LO.alloc rfl ty25) ?_
  refine RW.nil ?_
  repeat (refine W.seq ?_)
  refine W.region 5 10 (by decide) rfl rfl ?_
  refine RW.opd rfl rfl (LO.move rfl rfl) ?_
  refine RW.opd rfl rfl (LO.add_in rfl rfl rfl ?_) ?_; (· (first | exact IntWalk.i64_in _ (by omega) | assumption))
  refine RW.opd rfl rfl (LO.conv_in rfl rfl ty3 ty23 ?_) ?_; (· (first | exact IntWalk.u64_in _ (by omega) | assumption))
  refine RW.opd rfl rfl (LO.build_st rfl ty25 (.cons rfl rfl rfl rfl (Sp.lit rfl) (.cons rfl rfl rfl rfl (Sp.lit rfl) (.cons rfl rfl rfl rfl (Sp.lit rfl) .nil)))) ?_
  refine RW.opn rfl rfl (LO.store rfl rfl rfl rfl rfl ty25 rfl (by decide) (Sp.lit rfl)) ?_
  refine RW.nil ?_
  repeat (refine W.seq ?_)
  refine W.ret ⟨.inl rfl, _, mt, (RVs.cons (RV.cellA rfl rfl ty25 rfl (Tk.lit rfl)) RVs.nil), (by (repeat' (first | exact all_mt | refine all_up ?_ ?_)) <;> rfl), ?_⟩
  exact ⟨rfl, rfl⟩
theorem within_any (n l h : Int) : AFn Tryd.prog 72 0 [.base (.int .i64 n), .base (.int .i64 l), .base (.int .i64 h)] mt (.base (.bool (decide (l ≤ n) && decide (n ≤ h)))) mt := by
  refine AFn.eq Tryd.func72 rfl rfl (Nat.le_of_ble_eq_true rfl) ?_
  repeat (refine W.seq ?_)
  refine W.region 0 1 (by decide) rfl rfl ?_
  refine RW.opd rfl rfl (LO.assign rfl rfl) ?_
  refine RW.nil ?_
  repeat (refine W.seq ?_)
  refine W.region 5 14 (by decide) rfl rfl ?_
  refine RW.opd rfl rfl (LO.move rfl rfl) ?_
  refine RW.opd rfl rfl (LO.move rfl rfl) ?_
  refine RW.opd rfl rfl (LO.geq rfl rfl rfl) ?_
  refine RW.opd rfl rfl (LO.move rfl rfl) ?_
  refine RW.split (t := 10) rfl (fun hb2 => ?_) (fun hb2 => ?_)
  ·
    try (have hb2p := of_decide_eq_true hb2)
    try (have hb2q := eq_of_beq hb2)
    refine RW.gd rfl rfl rfl hb2 rfl (LO.move rfl rfl) ?_
    refine RW.gd rfl rfl rfl hb2 rfl (LO.move rfl rfl) ?_
    refine RW.gd rfl rfl rfl hb2 rfl (LO.leq rfl rfl rfl) ?_
    refine RW.opd rfl rfl (LO.pick_t rfl rfl hb2 rfl) ?_
    refine RW.opd rfl rfl (LO.assign rfl rfl) ?_
    refine RW.nil ?_
    repeat (refine W.seq ?_)
    refine W.ret ⟨.inl rfl, _, mt, RVs.cons (RV.tmp rfl) (RVs.nil), all_mt, ?_⟩
    exact ⟨by (simp_all [retOf]) <;> omega, rfl⟩
  ·
    try (have hb2p := of_decide_eq_false hb2)
    try (have hb2q := ne_of_beq_false hb2)
    refine RW.sd rfl rfl rfl hb2 rfl ?_
    refine RW.sd rfl rfl rfl hb2 rfl ?_
    refine RW.sd rfl rfl rfl hb2 rfl ?_
    refine RW.opd rfl rfl (LO.pick_f rfl rfl hb2 rfl) ?_
    refine RW.opd rfl rfl (LO.assign rfl rfl) ?_
    refine RW.nil ?_
    repeat (refine W.seq ?_)
    refine W.ret ⟨.inl rfl, _, mt, RVs.cons (RV.tmp rfl) (RVs.nil), all_mt, ?_⟩
    exact ⟨by (simp_all [retOf]) <;> omega, rfl⟩
theorem within_yes {n l h : Int} (h1 : l ≤ n) (h2 : n ≤ h) : AFn Tryd.prog 72 0 [.base (.int .i64 n), .base (.int .i64 l), .base (.int .i64 h)] mt (.base (.bool true)) mt := by
  have := within_any n l h
  rwa [decide_eq_true h1, decide_eq_true h2] at this
/-- the fourteen addresses of each block that are given to ports -/
theorem four_in : ∀ n : Fin 15, eqPre (mkP (fourA (n.val : Int)) 24) lan4 = true ∧ eqA (fourA (n.val : Int)) lan4.ad = false ∧ eqA (fourA (n.val : Int)) (mkAd .or lan4.ad 24) = false := by decide +kernel
theorem six_in : ∀ n : Fin 15, eqPre (mkP (sixA (n.val : Int)) 64) lan6 = true ∧ eqA (sixA (n.val : Int)) lan6.ad = false := by decide +kernel
theorem lan_ok : eqPre lan4 (mkP lan4.ad 24) = true ∧ eqPre lan6 (mkP lan6.ad 64) = true := by decide +kernel
end Go.Proofs.YtcidmiacfjdepaaDoor
