/-
  Copies of fabrics; a fabric without items: both texts.
-/
import Derived.Test.YtbjfaepjpmogjaaDoorKb
namespace Go.Proofs.YtbjfaepjpmogjaaDoor
open Go.RowKit

theorem boolsC_pure (l : List Bool) : (boolsC l).all AV.pure1 = true := by
  induction l with
  | nil => rfl
  | cons x l ih => rw [show boolsC (x :: l) = [.base (.bool x)] ++ boolsC l from rfl, List.all_append, ih]; rfl
theorem listL_any (l : List Lnk) (hl : l.length ≤ 1000) : AFn Tryd.prog 49 0 [.isl (lnksC l) l.length] mt (.osl 0 0 l.length 3) (up mt 0 (some (lnksC l))) := by
  refine AFn.eq Tryd.func49 rfl rfl (Nat.le_of_ble_eq_true rfl) ?_
  repeat (refine W.seq ?_)
  refine W.region 0 1 (by decide) rfl rfl ?_
  refine RW.opd rfl rfl (LO.assign rfl rfl) ?_
  refine RW.nil ?_
  repeat (refine W.seq ?_)
  refine W.region 5 8 (by decide) rfl rfl ?_
  refine RW.opd rfl rfl (LO.move rfl rfl) ?_
  refine RW.opd rfl rfl (LO.append_nil rfl rfl (SrcAV.isl rfl rfl ?_) ty25 ty25 ty56 (by decide) ?_ ?_ ?_) ?_; (· (first | rfl | assumption | exact lnksC_len _)); (· (first | omega | decide | assumption | exact lnksC_len _ | (simp; done) | (simp; omega))); (· (first | omega | decide | assumption | exact lnksC_len _ | (simp; done) | (simp; omega))); (· (first | decide | omega))
  refine RW.opd rfl rfl (LO.assign rfl rfl) ?_
  refine RW.nil ?_
  refine W.rename [(0, 6)] 1 (T' := up mt 2 (some (.osl 0 0 (l.length) 3))) (H' := up mt 0 (some (lnksC l))) (by decide) ?_ ?_ ?_
  · (repeat' (first | exact all_mt | refine all_up ?_ ?_)) <;> first | exact .inl ⟨rfl, rfl⟩ | exact .inr ⟨rfl, fun _ h => by cases h⟩ | exact .inl ⟨rfl, by first | rfl | assumption | exact (flatPure (fun _ => rfl) l)⟩
  · (repeat' (first | exact all_mt | refine all_up ?_ ?_)) <;> first | exact ⟨rfl, _, rfl, .inr ⟨rfl, rfl⟩⟩ | exact ⟨rfl, _, rfl, .inl rfl⟩ | exact ⟨rfl, _, rfl, .inr ⟨rfl, by first | rfl | assumption | exact (flatPure (fun _ => rfl) l)⟩⟩
  repeat (refine W.seq ?_)
  refine W.ret ⟨.inl rfl, _, up mt 0 (some (lnksC l)), RVs.cons (RV.tmp rfl) RVs.nil, all_up rfl all_mt, ?_⟩
  exact ⟨rfl, rfl⟩
theorem listB_any (l : List Bool) (hl : l.length ≤ 1000) : AFn Tryd.prog 50 0 [.isl (boolsC l) l.length] mt (.osl 0 0 l.length 1) (up mt 0 (some (boolsC l))) := by
  refine AFn.eq Tryd.func50 rfl rfl (Nat.le_of_ble_eq_true rfl) ?_
  repeat (refine W.seq ?_)
  refine W.region 0 1 (by decide) rfl rfl ?_
  refine RW.opd rfl rfl (LO.assign rfl rfl) ?_
  refine RW.nil ?_
  repeat (refine W.seq ?_)
  refine W.region 5 8 (by decide) rfl rfl ?_
  refine RW.opd rfl rfl (LO.move rfl rfl) ?_
  refine RW.opd rfl rfl (LO.append_nil rfl rfl (SrcAV.isl rfl rfl ?_) ty26 ty26 ty4 (by decide) ?_ ?_ ?_) ?_; (· (first | rfl | assumption | (simp [boolsC]))); (· (first | omega | decide | assumption | (simp [boolsC]) | (simp; done) | (simp; omega))); (· (first | omega | decide | assumption | (simp [boolsC]) | (simp; done) | (simp; omega))); (· (first | decide | omega))
  refine RW.opd rfl rfl (LO.assign rfl rfl) ?_
  refine RW.nil ?_
  refine W.rename [(0, 6)] 1 (T' := up mt 2 (some (.osl 0 0 (l.length) 1))) (H' := up mt 0 (some (boolsC l))) (by decide) ?_ ?_ ?_
  · (repeat' (first | exact all_mt | refine all_up ?_ ?_)) <;> first | exact .inl ⟨rfl, rfl⟩ | exact .inr ⟨rfl, fun _ h => by cases h⟩ | exact .inl ⟨rfl, by first | rfl | assumption | exact (boolsC_pure l)⟩
  · (repeat' (first | exact all_mt | refine all_up ?_ ?_)) <;> first | exact ⟨rfl, _, rfl, .inr ⟨rfl, rfl⟩⟩ | exact ⟨rfl, _, rfl, .inl rfl⟩ | exact ⟨rfl, _, rfl, .inr ⟨rfl, by first | rfl | assumption | exact (boolsC_pure l)⟩⟩
  repeat (refine W.seq ?_)
  refine W.ret ⟨.inl rfl, _, up mt 0 (some (boolsC l)), RVs.cons (RV.tmp rfl) RVs.nil, all_up rfl all_mt, ?_⟩
  exact ⟨rfl, rfl⟩
theorem listI_any (l : List Itm) (hl : l.length ≤ 1000) : AFn Tryd.prog 35 0 [.isl (itsC l) l.length] mt (.osl 0 0 l.length 2) (up mt 0 (some (itsC l))) := by
  refine AFn.eq Tryd.func35 rfl rfl (Nat.le_of_ble_eq_true rfl) ?_
  repeat (refine W.seq ?_)
  refine W.region 0 1 (by decide) rfl rfl ?_
  refine RW.opd rfl rfl (LO.assign rfl rfl) ?_
  refine RW.nil ?_
  repeat (refine W.seq ?_)
  refine W.region 5 8 (by decide) rfl rfl ?_
  refine RW.opd rfl rfl (LO.move rfl rfl) ?_
  refine RW.opd rfl rfl (LO.append_nil rfl rfl (SrcAV.isl rfl rfl ?_) ty22 ty22 ty45 (by decide) ?_ ?_ ?_) ?_; (· (first | rfl | assumption | exact flatLen (c := itC) (fun _ => rfl) _)); (· (first | omega | decide | assumption | exact flatLen (c := itC) (fun _ => rfl) _ | (simp; done) | (simp; omega))); (· (first | omega | decide | assumption | exact flatLen (c := itC) (fun _ => rfl) _ | (simp; done) | (simp; omega))); (· (first | decide | omega))
  refine RW.opd rfl rfl (LO.assign rfl rfl) ?_
  refine RW.nil ?_
  refine W.rename [(0, 6)] 1 (T' := up mt 2 (some (.osl 0 0 (l.length) 2))) (H' := up mt 0 (some (itsC l))) (by decide) ?_ ?_ ?_
  · (repeat' (first | exact all_mt | refine all_up ?_ ?_)) <;> first | exact .inl ⟨rfl, rfl⟩ | exact .inr ⟨rfl, fun _ h => by cases h⟩ | exact .inl ⟨rfl, by first | rfl | assumption | exact (its_pure l)⟩
  · (repeat' (first | exact all_mt | refine all_up ?_ ?_)) <;> first | exact ⟨rfl, _, rfl, .inr ⟨rfl, rfl⟩⟩ | exact ⟨rfl, _, rfl, .inl rfl⟩ | exact ⟨rfl, _, rfl, .inr ⟨rfl, by first | rfl | assumption | exact (its_pure l)⟩⟩
  repeat (refine W.seq ?_)
  refine W.ret ⟨.inl rfl, _, up mt 0 (some (itsC l)), RVs.cons (RV.tmp rfl) RVs.nil, all_up rfl all_mt, ?_⟩
  exact ⟨rfl, rfl⟩
def fabO (f : Fab) : List AV := [.base (.int .i64 f.sw), .osl 0 0 f.links.length 3, .osl 1 0 f.down.length 1, .osl 2 0 f.dead.length 1]
theorem lnks_pure (l : List Lnk) : (lnksC l).all AV.pure1 = true := flatPure (fun _ => rfl) l
theorem lnks_all {l : List Lnk} {n : Nat} (h : l.length = n) : Tk (lnksC l) 0 (n * 3) (lnksC l) := flatAll (c := lnkC) (fun _ => rfl) h
theorem cloneF_any (f : Fab) (h1 : f.links.length ≤ 1000) (h2 : f.down.length ≤ 1000) (h3 : f.dead.length ≤ 1000) : AFn Tryd.prog 38 0 [.agg (fabC f)] mt (.agg (fabO f)) (up (up (up mt 2 (some (boolsC f.dead))) 1 (some (boolsC f.down))) 0 (some (lnksC f.links))) := by
  refine AFn.eq Tryd.func38 rfl rfl (Nat.le_of_ble_eq_true rfl) ?_
  have hL := listL_any f.links h1
  have hD := listB_any f.down h2
  have hE := listB_any f.dead h3
  unfold fabC fabO
  repeat (refine W.seq ?_)
  refine W.region 0 2 (by decide) rfl rfl ?_
  refine RW.opd rfl rfl (LO.box rfl rfl rfl) ?_
  refine RW.opd rfl rfl (LO.alloc rfl ty28) ?_
  refine RW.nil ?_
  repeat (refine W.seq ?_)
  refine W.regionD 6 21 (by decide) rfl mixed rfl ?_
  refine RW.opd rfl rfl (LO.fieldAddr rfl rfl ty28 rfl (by decide)) ?_
  refine RW.opd rfl rfl (LO.load rfl rfl rfl rfl ty25 rfl) ?_
  refine RW.opd rfl rfl (LO.callO (fr := []) rfl rfl (hL) fok49 (.cons rfl (.pure rfl) .nil) (lnks_pure _) (by decide)) ?_
  refine RW.opd rfl rfl (LO.fieldAddr rfl rfl ty28 rfl (by decide)) ?_
  refine RW.opd rfl rfl (LO.load rfl rfl rfl rfl ty26 rfl) ?_
  refine RW.opd rfl rfl (LO.callO (fr := []) rfl rfl (hD) fok50 (.cons rfl (.pure rfl) .nil) (boolsC_pure _) (by decide)) ?_
  refine RW.opd rfl rfl (LO.fieldAddr rfl rfl ty28 rfl (by decide)) ?_
  refine RW.opd rfl rfl (LO.load rfl rfl rfl rfl ty26 rfl) ?_
  refine RW.opd rfl rfl (LO.callO (fr := []) rfl rfl (hE) fok50 (.cons rfl (.pure rfl) .nil) (boolsC_pure _) (by decide)) ?_
  refine RW.opd rfl rfl (LO.fieldAddr rfl rfl ty28 rfl (by decide)) ?_
  refine RW.opn rfl rfl (LO.store rfl rfl rfl rfl rfl ty25 rfl (by decide) (Sp.lit rfl)) ?_
  refine RW.opd rfl rfl (LO.fieldAddr rfl rfl ty28 rfl (by decide)) ?_
  refine RW.opn rfl rfl (LO.store rfl rfl rfl rfl rfl ty26 rfl (by decide) (Sp.lit rfl)) ?_
  refine RW.opd rfl rfl (LO.fieldAddr rfl rfl ty28 rfl (by decide)) ?_
  refine RW.opn rfl rfl (LO.store rfl rfl rfl rfl rfl ty26 rfl (by decide) (Sp.lit rfl)) ?_
  refine RW.nil ⟨by kernel_rfl, ?_⟩
  repeat (refine W.seq ?_)
  refine W.region 25 27 (by decide) rfl rfl ?_
  refine RW.opd rfl rfl (LO.load_agg rfl rfl rfl ty28 rfl (Tk.lit rfl)) ?_
  refine RW.opn rfl rfl (LO.store rfl rfl rfl rfl rfl ty28 rfl (by decide) (Sp.lit rfl)) ?_
  refine RW.nil ?_
  refine W.rename [(0, 8), (1, 11), (2, 14), (3, 1)] 4 (T' := up mt 2 (some (.own 3 0))) (H' := up (up (up (up mt 3 (some [.base (.int .i64 f.sw), .osl 0 0 f.links.length 3, .osl 1 0 f.down.length 1, .osl 2 0 f.dead.length 1])) 2 (some (boolsC f.dead))) 1 (some (boolsC f.down))) 0 (some (lnksC f.links))) (by decide) ?_ ?_ ?_
  · (repeat' (first | exact all_mt | refine all_up ?_ ?_)) <;> first | exact .inl ⟨rfl, rfl⟩ | exact .inr ⟨rfl, fun _ h => by cases h⟩ | exact .inl ⟨rfl, by first | rfl | assumption | exact (lnks_pure _) | exact (boolsC_pure _)⟩
  · (repeat' (first | exact all_mt | refine all_up ?_ ?_)) <;> first | exact ⟨rfl, _, rfl, .inr ⟨rfl, rfl⟩⟩ | exact ⟨rfl, _, rfl, .inl rfl⟩ | exact ⟨rfl, _, rfl, .inr ⟨rfl, by first | rfl | assumption | exact (lnks_pure _) | exact (boolsC_pure _)⟩⟩
  repeat (refine W.seq ?_)
  refine W.ret ⟨.inl rfl, _, up (up (up mt 2 (some (boolsC f.dead))) 1 (some (boolsC f.down))) 0 (some (lnksC f.links)), (RVs.cons (RV.cellA rfl rfl ty28 rfl (Tk.lit rfl)) RVs.nil), (by (repeat' (first | exact all_mt | refine all_up ?_ ?_)) <;> rfl), ?_⟩
  exact ⟨rfl, rfl⟩
theorem copyF_any (f : Fab) (h1 : f.links.length ≤ 1000) (h2 : f.down.length ≤ 1000) (h3 : f.dead.length ≤ 1000) : AFn Tryd.prog 44 0 [.agg (fabC f)] mt (.agg (fabO f)) (up (up (up mt 2 (some (boolsC f.dead))) 1 (some (boolsC f.down))) 0 (some (lnksC f.links))) := by
  refine AFn.eq Tryd.func44 rfl rfl (Nat.le_of_ble_eq_true rfl) ?_
  unfold fabC fabO
  repeat (refine W.seq ?_)
  refine W.region 0 2 (by decide) rfl rfl ?_
  refine RW.opd rfl rfl (LO.box rfl rfl rfl) ?_
  refine RW.opd rfl rfl (LO.alloc rfl ty28) ?_
  refine RW.nil ?_
  repeat (refine W.seq ?_)
  refine W.region 6 11 (by decide) rfl rfl ?_
  refine RW.opd rfl rfl (LO.fieldAddr rfl rfl ty28 rfl (by decide)) ?_
  refine RW.opd rfl rfl (LO.load rfl rfl rfl rfl ty25 rfl) ?_
  refine RW.opd rfl rfl (LO.append_nil rfl rfl (SrcAV.isl rfl rfl ?_) ty25 ty25 ty56 (by decide) ?_ ?_ ?_) ?_; (· (first | rfl | assumption | first | exact lnksC_len _ | (simp [boolsC]; done))); (· (first | omega | decide | assumption | first | exact lnksC_len _ | (simp [boolsC]; done) | (simp; done) | (simp; omega))); (· (first | omega | decide | assumption | first | exact lnksC_len _ | (simp [boolsC]; done) | (simp; done) | (simp; omega))); (· (first | decide | omega))
  refine RW.opd rfl rfl (LO.fieldAddr rfl rfl ty28 rfl (by decide)) ?_
  refine RW.opn rfl rfl (LO.store rfl rfl rfl rfl rfl ty25 rfl (by decide) (Sp.lit rfl)) ?_
  refine RW.nil ?_
  repeat (refine W.seq ?_)
  refine W.regionD 15 25 (by decide) rfl mixed rfl ?_
  refine RW.opd rfl rfl (LO.fieldAddr rfl rfl ty28 rfl (by decide)) ?_
  refine RW.opd rfl rfl (LO.load rfl rfl rfl rfl ty26 rfl) ?_
  refine RW.opd rfl rfl (LO.append_nil rfl rfl (SrcAV.isl rfl rfl ?_) ty26 ty26 ty4 (by decide) ?_ ?_ ?_) ?_; (· (first | rfl | assumption | first | exact lnksC_len _ | (simp [boolsC]; done))); (· (first | omega | decide | assumption | first | exact lnksC_len _ | (simp [boolsC]; done) | (simp; done) | (simp; omega))); (· (first | omega | decide | assumption | first | exact lnksC_len _ | (simp [boolsC]; done) | (simp; done) | (simp; omega))); (· (first | decide | omega))
  refine RW.opd rfl rfl (LO.fieldAddr rfl rfl ty28 rfl (by decide)) ?_
  refine RW.opd rfl rfl (LO.load rfl rfl rfl rfl ty26 rfl) ?_
  refine RW.opd rfl rfl (LO.append_nil rfl rfl (SrcAV.isl rfl rfl ?_) ty26 ty26 ty4 (by decide) ?_ ?_ ?_) ?_; (· (first | rfl | assumption | first | exact lnksC_len _ | (simp [boolsC]; done))); (· (first | omega | decide | assumption | first | exact lnksC_len _ | (simp [boolsC]; done) | (simp; done) | (simp; omega))); (· (first | omega | decide | assumption | first | exact lnksC_len _ | (simp [boolsC]; done) | (simp; done) | (simp; omega))); (· (first | decide | omega))
  refine RW.opd rfl rfl (LO.fieldAddr rfl rfl ty28 rfl (by decide)) ?_
  refine RW.opn rfl rfl (LO.store rfl rfl rfl rfl rfl ty26 rfl (by decide) (Sp.lit rfl)) ?_
  refine RW.opd rfl rfl (LO.fieldAddr rfl rfl ty28 rfl (by decide)) ?_
  refine RW.opn rfl rfl (LO.store rfl rfl rfl rfl rfl ty26 rfl (by decide) (Sp.lit rfl)) ?_
  refine RW.nil ⟨by kernel_rfl, ?_⟩
  repeat (refine W.seq ?_)
  refine W.region 29 31 (by decide) rfl rfl ?_
  refine RW.opd rfl rfl (LO.load_agg rfl rfl rfl ty28 rfl (Tk.lit rfl)) ?_
  refine RW.opn rfl rfl (LO.store rfl rfl rfl rfl rfl ty28 rfl (by decide) (Sp.lit rfl)) ?_
  refine RW.nil ?_
  refine W.rename [(0, 8), (1, 17), (2, 20), (3, 1)] 4 (T' := up mt 2 (some (.own 3 0))) (H' := up (up (up (up mt 3 (some [.base (.int .i64 f.sw), .osl 0 0 f.links.length 3, .osl 1 0 f.down.length 1, .osl 2 0 f.dead.length 1])) 2 (some (boolsC f.dead))) 1 (some (boolsC f.down))) 0 (some (lnksC f.links))) (by decide) ?_ ?_ ?_
  · (repeat' (first | exact all_mt | refine all_up ?_ ?_)) <;> first | exact .inl ⟨rfl, rfl⟩ | exact .inr ⟨rfl, fun _ h => by cases h⟩ | exact .inl ⟨rfl, by first | rfl | assumption | exact (lnks_pure _) | exact (boolsC_pure _)⟩
  · (repeat' (first | exact all_mt | refine all_up ?_ ?_)) <;> first | exact ⟨rfl, _, rfl, .inr ⟨rfl, rfl⟩⟩ | exact ⟨rfl, _, rfl, .inl rfl⟩ | exact ⟨rfl, _, rfl, .inr ⟨rfl, by first | rfl | assumption | exact (lnks_pure _) | exact (boolsC_pure _)⟩⟩
  repeat (refine W.seq ?_)
  refine W.ret ⟨.inl rfl, _, up (up (up mt 2 (some (boolsC f.dead))) 1 (some (boolsC f.down))) 0 (some (lnksC f.links)), (RVs.cons (RV.cellA rfl rfl ty28 rfl (Tk.lit rfl)) RVs.nil), (by (repeat' (first | exact all_mt | refine all_up ?_ ?_)) <;> rfl), ?_⟩
  exact ⟨rfl, rfl⟩
end Go.Proofs.YtbjfaepjpmogjaaDoor
