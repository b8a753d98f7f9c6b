/-
  The check sum of data between two addresses: both texts.
-/
import Derived.Test.YtcidmiacfjdepaaDoorQg
namespace Go.Proofs.YtcidmiacfjdepaaDoor
open Go.RowKit
theorem put_isl (l : List Int) (n : Int) (hl : l.length ≤ 1000000) : AFn Tryd.prog 101 1 [.osl 0 0 l.length 1, .base (.int .i64 n)] (up mt 0 (some (bytesC l))) (.isl (bytesC (l ++ putL n)) (l.length + 2)) mt := by
  refine AFn.eq Tryd.func101 rfl rfl (Nat.le_of_ble_eq_true rfl) ?_
  repeat (refine W.seq ?_)
  refine W.region 1 2 (by decide) rfl rfl ?_
  refine RW.opd rfl rfl (LO.assign rfl rfl) ?_
  refine RW.nil ?_
  repeat (refine W.seq ?_)
  refine W.region 6 15 (by decide) rfl rfl ?_
  refine RW.opd rfl rfl (LO.move rfl rfl) ?_
  refine RW.opd rfl rfl (LO.move rfl rfl) ?_
  refine RW.opd rfl rfl (LO.shr rfl rfl rfl ?_) ?_; (· (first | omega | decide | assumption | fail | (simp; done) | (simp; omega)))
  refine RW.opd rfl rfl (LO.conv rfl rfl ty3 ty5) ?_
  refine RW.opd rfl rfl (LO.move rfl rfl) ?_
  refine RW.opd rfl rfl (LO.conv rfl rfl ty3 ty5) ?_
  refine RW.opd rfl rfl (LO.buildSlice rfl ty46 ty5 (by decide) (by decide) (.cons rfl rfl rfl rfl (Sp.lit rfl) (.cons rfl rfl rfl rfl (Sp.lit rfl) .nil))) ?_
  refine RW.opd rfl rfl (LO.append rfl rfl (SrcAV.own rfl rfl (Tk.lit rfl)) rfl (bytes_tk rfl) ty46 ty46 ty5 (by decide) ?_ ?_ ?_) ?_; (· (first | omega | decide | assumption | fail | (simp; done) | (simp; omega))); (· (first | omega | decide | assumption | fail | (simp; done) | (simp; omega))); (· (first | decide | omega))
  refine RW.opd rfl rfl (LO.assign rfl rfl) ?_
  refine RW.nil ?_
  rw [show bytesC l ++ [AV.base (.int .u8 (IntKind.u8.wrap (n.fdiv (2 ^ (min (8 : Int).toNat IntKind.i64.bits))))), AV.base (.int .u8 (IntKind.u8.wrap n))] = bytesC (l ++ putL n) from by rw [bytesC_app]; rfl]
  refine W.frz1 (t := 4) rfl rfl (bytes_tk (by rw [List.length_append]; rfl)) (bytesC_pure _) ?_
  repeat (refine W.seq ?_)
  refine W.ret ⟨.inl rfl, _, mt, RVs.cons (RV.tmp rfl) (RVs.nil), all_mt, ?_⟩
  exact ⟨rfl, rfl⟩
def len4 (n : Nat) : List Int := [0, (n : Int) / 65536 % 256, (n : Int) / 256 % 256, (n : Int) % 256]
theorem sh_i64 (n : Nat) (k : Nat) (hk : k < 64) : (n : Int).fdiv (2 ^ (min (k : Int).toNat IntKind.i64.bits)) = (n : Int) / 2 ^ k := by
  rw [Int.toNat_natCast, Nat.min_eq_left (show k ≤ IntKind.i64.bits from by show _ ≤ 64; omega), Int.fdiv_eq_ediv_of_nonneg _ (Int.le_of_lt (Int.pow_pos (by decide)))]
theorem put_len4 {n : Nat} (h : n < 16777216) : putL ((n : Int).fdiv (2 ^ (min (16 : Int).toNat IntKind.i64.bits))) ++ putL n = len4 n := by
  have e16 := sh_i64 n 16 (by decide)
  have e8 := sh_i64 n 8 (by decide)
  have e8' := sh_i64 (n / 65536) 8 (by decide)
  simp only [putL, hi8, len4]
  rw [show ((16 : Nat) : Int) = 16 from rfl] at e16
  rw [show ((8 : Nat) : Int) = 8 from rfl] at e8 e8'
  rw [e16, show (n : Int) / 2 ^ 16 = ((n / 65536 : Nat) : Int) from by omega, e8', e8, IntKind.wrap_u8', IntKind.wrap_u8', IntKind.wrap_u8', IntKind.wrap_u8']
  simp only [List.cons_append, List.nil_append, List.cons.injEq, and_true]
  omega
def chkParts (s d : Ad) (p : Int) (l : List Int) : List (List Int) := [addrL s, addrL d, len4 l.length, [0, 0, 0, IntKind.u8.wrap p], l]
def chkB (s d : Ad) (p : Int) (l : List Int) : List Int := (chkParts s d p l).flatten
def chkF (s d : Ad) (p : Int) (l : List Int) : Int := sumL (chkB s d p l)
theorem chkB_eq (s d : Ad) (p : Int) (l : List Int) : chkB s d p l = addrL s ++ addrL d ++ (len4 l.length ++ [0, 0, 0, IntKind.u8.wrap p]) ++ l := by simp [chkB, chkParts]
theorem len4_isB (n : Nat) : IsB (len4 n) := fun x hx => by
  simp only [len4, List.mem_cons, List.not_mem_nil, or_false] at hx
  rcases hx with rfl | rfl | rfl | rfl <;> omega
theorem pr_isB (p : Int) : IsB [0, 0, 0, IntKind.u8.wrap p] := fun x hx => by
  have := u8_bd p
  simp only [List.mem_cons, List.not_mem_nil, or_false] at hx
  rcases hx with rfl | rfl | rfl | rfl <;> omega
theorem chkB_isB (s d : Ad) (p : Int) {l : List Int} (hB : IsB l) : IsB (chkB s d p l) := by
  rw [chkB_eq]
  exact (((addrL_isB s).append (addrL_isB d)).append ((len4_isB _).append (pr_isB p))).append hB
theorem addrL_pos (a : Ad) : 1 ≤ (addrL a).length ∧ (addrL a).length ≤ 16 := by rw [addrL_len]; split <;> omega
theorem chkB_len (s d : Ad) (p : Int) (l : List Int) : (chkB s d p l).length = (addrL s).length + (addrL d).length + 8 + l.length := by
  rw [chkB_eq]; simp [len4]; omega
set_option maxHeartbeats 1000000 in
theorem chk_any (s d : Ad) (p : Int) (l : List Int) (hs : validA s.v6 s.hi s.lo = true) (hd : validA d.v6 d.hi d.lo = true) (s1 : U64 s.hi) (s2 : U64 s.lo) (d1 : U64 d.hi) (d2 : U64 d.lo) (hB : IsB l) (hl : l.length ≤ 100000) :
    AFn Tryd.prog 90 0 [.agg (adC s), .agg (adC d), .base (.int .i64 p), .isl (bytesC l) l.length] mt (.base (.int .u16 (chkF s d p l))) mt := by
  refine AFn.eq Tryd.func90 rfl rfl (Nat.le_of_ble_eq_true rfl) ?_
  have hbs := (bytes_any s hs s1 s2).frozen (bytes_tk rfl) (bytesC_pure _)
  have hbd := (bytes_any d hd d1 d2).frozen (bytes_tk rfl) (bytesC_pure _)
  have p1 := addrL_pos s
  have p2 := addrL_pos d
  have hcl := chkB_len s d p l
  have hsm := sum_any (chkB s d p l) (chkB_isB s d p hB) (by omega)
  have hj := join_any (chkParts s d p l) (Nat.le_of_ble_eq_true rfl) (Nat.le_of_ble_eq_true rfl) (show 1 ≤ (chkB s d p l).length by omega) (show (chkB s d p l).length ≤ 1000000 by omega) p1.1
  have hpn := put_len4 (n := l.length) (by omega)
  have hpi := put_isl (putL ((l.length : Int).fdiv (2 ^ (min (16 : Int).toNat IntKind.i64.bits)))) (l.length : Int) (Nat.le_of_ble_eq_true rfl)
  rw [hpn] at hpi
  repeat (refine W.seq ?_)
  refine W.region 0 3 (by decide) rfl rfl ?_
  refine RW.opd rfl rfl (LO.box rfl rfl rfl) ?_
  refine RW.opd rfl rfl (LO.box rfl rfl rfl) ?_
  refine RW.opd rfl rfl (LO.assign rfl rfl) ?_
  refine RW.nil ?_
  repeat (refine W.seq ?_)
  refine W.region 7 10 (by decide) rfl rfl ?_
  refine RW.opd rfl rfl (LO.move rfl rfl) ?_
  refine RW.opd rfl rfl (LO.len_isl rfl rfl rfl ty46) ?_
  refine RW.opd rfl rfl (LO.assign rfl rfl) ?_
  refine RW.nil ?_
  repeat (refine W.seq ?_)
  refine W.regionD 14 31 (by decide) rfl mixed rfl ?_
  refine RW.opd rfl rfl (LO.load_agg rfl rfl rfl ty25 rfl (Tk.lit rfl)) ?_
  refine RW.opd rfl rfl (LO.call0 (fr := []) rfl rfl (hbs) fok91 (.cons rfl (.pure rfl) .nil) rfl) ?_
  refine RW.opd rfl rfl (LO.load_agg rfl rfl rfl ty25 rfl (Tk.lit rfl)) ?_
  refine RW.opd rfl rfl (LO.call0 (fr := []) rfl rfl (hbd) fok91 (.cons rfl (.pure rfl) .nil) rfl) ?_
  refine RW.opd rfl rfl (LO.move rfl rfl) ?_
  refine RW.opd rfl rfl (LO.shr rfl rfl rfl ?_) ?_; (· (first | omega | decide | assumption | fail | (simp; done) | (simp; omega)))
  refine RW.opd rfl rfl (LO.callO (fr := []) rfl rfl (put_nil _) fok101 (.cons rfl (.pure rfl) (.cons rfl (.pure rfl) .nil)) rfl (by decide)) ?_
  refine RW.opd rfl rfl (LO.move rfl rfl) ?_
  refine RW.opd rfl rfl (LO.callD (fr := []) rfl rfl (hpi) fok101 (.osl rfl rfl (.cons rfl (.pure rfl) .nil)) rfl rfl rfl (List.cons_ne_nil _ _) (by decide) (by decide) (by decide)) ?_
  refine RW.opd rfl rfl (LO.move rfl rfl) ?_
  refine RW.opd rfl rfl (LO.conv rfl rfl ty3 ty5) ?_
  refine RW.opd rfl rfl (LO.buildSlice rfl ty46 ty5 (by decide) (by decide) (.cons rfl rfl rfl rfl (Sp.lit rfl) (.cons rfl rfl rfl rfl (Sp.lit rfl) (.cons rfl rfl rfl rfl (Sp.lit rfl) (.cons rfl rfl rfl rfl (Sp.lit rfl) .nil))))) ?_
  refine RW.opd rfl rfl (LO.move rfl rfl) ?_
  refine RW.opd rfl rfl (LO.buildSlice rfl ty161 ty46 (by decide) (by decide) (.cons rfl rfl rfl rfl (Sp.lit rfl) (.cons rfl rfl rfl rfl (Sp.lit rfl) (.cons rfl rfl rfl rfl (Sp.lit rfl) (.cons rfl rfl rfl rfl (Sp.lit rfl) (.cons rfl rfl rfl rfl (Sp.lit rfl) .nil)))))) ?_
  refine RW.opd rfl rfl (LO.callO (fr := [27, 25]) rfl rfl (hj) fok100 (.cons rfl (.nest (by decide) rfl (Tk.lit rfl) (.cons (.same rfl) (.cons (.same rfl) (.cons (.same rfl) (.cons (.osl (by decide) rfl (Tk.lit rfl) rfl) (.cons (.same rfl) .nil)))))) (.cons rfl (.pure rfl) .nil)) (bytesC_pure _) (by decide)) ?_
  refine RW.opd rfl rfl (LO.call0 (fr := [28]) rfl rfl (hsm) fok88 (.cons rfl (.one (.osl (by decide) rfl (bytes_tk rfl) (bytesC_pure _))) .nil) rfl) ?_
  refine RW.opd rfl rfl (LO.assign rfl rfl) ?_
  refine RW.nil ⟨by kernel_rfl, ?_⟩
  repeat (refine W.seq ?_)
  refine W.ret ⟨.inl rfl, _, mt, RVs.cons (RV.tmp rfl) (RVs.nil), all_mt, ?_⟩
  exact ⟨rfl, rfl⟩
end Go.Proofs.YtcidmiacfjdepaaDoor
