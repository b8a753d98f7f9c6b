/-
  Small functions of databases: whether an address is none, all members in a row.
-/
import Derived.Test.YtcidmiacfjdepaaDoorJa
import Derived.Test.YtcidmiacfjdepaaDoorQc
namespace Go.Proofs.YtcidmiacfjdepaaDoor
open Go.RowKit

def zeroA (a : Ad) : Bool := eqA a ⟨false, 0, 0⟩
theorem zero_any (a : Ad) : AFn Tryd.prog 76 0 [.agg (adC a)] mt (.base (.bool (zeroA a))) mt := by
  refine AFn.eq Tryd.func76 rfl rfl (Nat.le_of_ble_eq_true rfl) ?_
  repeat (refine W.seq ?_)
  refine W.region 0 2 (by decide) rfl rfl ?_
  refine RW.opd rfl rfl (LO.box rfl rfl rfl) ?_
  refine RW.opd rfl rfl (LO.assign rfl rfl) ?_
  refine RW.nil ?_
  repeat (refine W.seq ?_)
  refine W.region 6 10 (by decide) rfl rfl ?_
  refine RW.opd rfl rfl (LO.load_agg rfl rfl rfl ty25 rfl (Tk.lit rfl)) ?_
  refine RW.opd rfl rfl (LO.build_st rfl ty25 .nil) ?_
  refine RW.opd rfl rfl (LO.eql_ad a ⟨false, 0, 0⟩ rfl rfl rfl) ?_
  refine RW.opd rfl rfl (LO.assign rfl rfl) ?_
  refine RW.nil ?_
  repeat (refine W.seq ?_)
  refine W.ret ⟨.inl rfl, _, mt, RVs.cons (RV.tmp rfl) (RVs.nil), all_mt, ?_⟩
  exact ⟨rfl, rfl⟩
theorem memsC_len (l : List Mem) : (memsC l).length = l.length * 6 := by
  induction l with
  | nil => rfl
  | cons x l ih => rw [show memsC (x :: l) = memC x ++ memsC l from rfl, List.length_append, ih, show (memC x).length = 6 from rfl, List.length_cons]; omega
theorem memsC_pure (l : List Mem) : (memsC l).all AV.pure1 = true := by
  induction l with
  | nil => rfl
  | cons x l ih => rw [show memsC (x :: l) = memC x ++ memsC l from rfl, List.all_append, ih]; rfl
theorem mems_all {l : List Mem} {n : Nat} (h : l.length = n) : Tk (memsC l) 0 (n * 6) (memsC l) := by
  have := Tk.all (memsC l)
  rwa [memsC_len, h] at this
theorem all_any (d : Db) (h1 : d.servers.length ≤ 1000) (h2 : d.members.length ≤ 1000) : AFn Tryd.prog 47 0 [.agg (dbC d)] mt (.isl (memsC (d.servers ++ d.members)) (d.servers ++ d.members).length) mt := by
  refine AFn.eq Tryd.func47 rfl rfl (Nat.le_of_ble_eq_true rfl) ?_
  repeat (refine W.seq ?_)
  refine W.region 0 2 (by decide) rfl rfl ?_
  refine RW.opd rfl rfl (LO.box rfl rfl rfl) ?_
  refine RW.opd rfl rfl (LO.assign rfl rfl) ?_
  refine RW.nil ?_
  repeat (refine W.seq ?_)
  refine W.regionD 6 13 (by decide) rfl mixed rfl ?_
  refine RW.opd rfl rfl (LO.fieldAddr rfl rfl ty30 rfl (by decide)) ?_
  refine RW.opd rfl rfl (LO.load rfl rfl rfl rfl ty28 rfl) ?_
  refine RW.opd rfl rfl (LO.append_nil rfl rfl (SrcAV.isl rfl rfl (memsC_len _)) ty28 ty28 ty76 (by decide) (by omega) (by omega) (by decide)) ?_
  refine RW.opd rfl rfl (LO.fieldAddr rfl rfl ty30 rfl (by decide)) ?_
  refine RW.opd rfl rfl (LO.load rfl rfl rfl rfl ty28 rfl) ?_
  refine RW.opd rfl rfl (LO.append rfl rfl (SrcAV.isl rfl rfl (memsC_len _)) rfl (mems_all rfl) ty28 ty28 ty76 (by decide) (by omega) (by omega) (by decide)) ?_
  refine RW.opd rfl rfl (LO.assign rfl rfl) ?_
  refine RW.nil ⟨by kernel_rfl, ?_⟩
  rw [show memsC d.servers ++ memsC d.members = memsC (d.servers ++ d.members) from by simp [memsC], show d.servers.length + d.members.length = (d.servers ++ d.members).length from by simp]
  refine W.frz1 (t := 2) rfl rfl (mems_all rfl) (memsC_pure _) ?_
  repeat (refine W.seq ?_)
  refine W.ret ⟨.inl rfl, _, mt, RVs.cons (RV.tmp rfl) (RVs.nil), all_mt, ?_⟩
  exact ⟨rfl, rfl⟩
end Go.Proofs.YtcidmiacfjdepaaDoor
