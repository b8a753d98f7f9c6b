/-
  The document's comparison; the best of several; lists of routes.
-/
import Derived.Test.YtgklkocmimjifaaCf
namespace Go.Proofs.Ytgklkocmimjifaa
open Go.RowKit
theorem ints_at {l : List Int} {i : Nat} (h : i < l.length) : (intsC l)[0 + i * 1]? = some (.base (.int .i64 (l.getD i 0))) := by
  simp [intsC, List.getD, h]
theorem Sp.of_all {cs ns : List AV} (h : ns.length = cs.length) : Sp cs 0 ns ns := ⟨by omega, h, fun j c hj => .inl ⟨Nat.zero_le _, by simpa using hj⟩⟩
theorem intsC5 {l : List Int} (h : l.length = 5) : (intsC l).length = 5 := by rw [intsC_len, h]
set_option maxHeartbeats 2000000 in
theorem rcompare_any (p : Po) (a b : Rt) (hp : p.pr.length ≤ 1000) (hp2 : ∀ x ∈ p.pr, -10 ≤ x.2 ∧ x.2 ≤ 10) (ha : OkR a) (hb : OkR b) : AFn Try.prog 14 0 [.agg (poC p), .agg (rtC a), .agg (rtC b)] mt (cmpV (cmpF p a b)) mt := by
  refine AFn.eq Try.func14 rfl rfl (Nat.le_of_ble_eq_true rfl) ?_
  have k1 := key_any p a hp hp2 ha
  have k2 := key_any p b hp hp2 hb
  unfold cmpF
  rw [ords_key]
  obtain ⟨X, hX, hXl⟩ : ∃ X, keyL p a = X ∧ X.length = 5 := ⟨_, rfl, rfl⟩
  obtain ⟨Y, hY, hYl⟩ : ∃ Y, keyL p b = Y ∧ Y.length = 5 := ⟨_, rfl, rfl⟩
  rw [hX] at k1 ⊢
  rw [hY] at k2 ⊢
  obtain ⟨R, hR⟩ : ∃ R, fnz (List.zipWith sgn3 X Y) 0 = R := ⟨_, rfl⟩
  rw [hR]
  have hXc := intsC5 hXl
  have hYc := intsC5 hYl
  obtain ⟨pa, fa, aa⟩ := a
  obtain ⟨pb, fb, ab⟩ := b
  unfold poC at k1 k2 ⊢
  rw [rt_lit] at k1 k2 ⊢
  rw [rt_lit]
  repeat (refine W.seq ?_)
  refine W.region 0 5 (by decide) rfl rfl ?_
  refine RW.opd rfl rfl (LO.box rfl rfl rfl) ?_
  refine RW.opd rfl rfl (LO.box rfl rfl rfl) ?_
  refine RW.opd rfl rfl (LO.box rfl rfl rfl) ?_
  refine RW.opd rfl rfl (LO.assign rfl rfl) ?_
  refine RW.opd rfl rfl (LO.assign rfl rfl) ?_
  refine RW.nil ?_
  repeat (refine W.seq ?_)
  refine W.regionD 9 19 (by decide) rfl mixed rfl ?_
  refine RW.opd rfl rfl (LO.load_agg rfl rfl rfl ty27 rfl (Tk.lit rfl)) ?_
  refine RW.opd rfl rfl (LO.load_agg rfl rfl rfl ty43 rfl (Tk.lit rfl)) ?_
  refine RW.opd rfl rfl (LO.call0 (fr := []) rfl rfl (k1) fok28 (.cons rfl (.pure rfl) (.cons rfl (.pure rfl) .nil)) (intsC_pure _)) ?_
  refine RW.opd rfl rfl (LO.load_agg rfl rfl rfl ty27 rfl (Tk.lit rfl)) ?_
  refine RW.opd rfl rfl (LO.load_agg rfl rfl rfl ty43 rfl (Tk.lit rfl)) ?_
  refine RW.opd rfl rfl (LO.call0 (fr := []) rfl rfl (k2) fok28 (.cons rfl (.pure rfl) (.cons rfl (.pure rfl) .nil)) (intsC_pure _)) ?_
  refine RW.opd rfl rfl (LO.alloc rfl ty68) ?_
  refine RW.opd rfl rfl (LO.alloc rfl ty68) ?_
  refine RW.opn rfl rfl (LO.store rfl rfl rfl rfl rfl ty68 hXc (by decide) (Sp.of_all hXc)) ?_
  refine RW.opn rfl rfl (LO.store rfl rfl rfl rfl rfl ty68 hYc (by decide) (Sp.of_all hYc)) ?_
  refine RW.nil ⟨by kernel_rfl, ?_⟩
  repeat (refine W.seq ?_)
  refine W.region 23 24 (by decide) rfl rfl ?_
  refine RW.opd rfl rfl (LO.move rfl rfl) ?_
  refine RW.nil ?_
  repeat (refine W.seq ?_)
  refine W.block ?_
  refine W.loop_keep (α := Nat) (fun x => 5 - x) 2 (fun x => [(8, .own 0 0), (9, .own 1 0), (17, .base (.int .i64 (x : Int)))]) (fun x => up (up mt 0 (some (intsC X))) 1 (some (intsC Y))) (fun x => x ≤ 5 ∧ fnz ((List.zipWith sgn3 X Y).drop x) (x : Int) = R) 0 [(0, 15), (1, 16)] .nil (show 0 ≤ 5 ∧ fnz ((List.zipWith sgn3 X Y).drop 0) (0 : Int) = R from ⟨Nat.zero_le _, hR⟩) (by decide) ?_ ?_ ?_
  · (repeat' (first | exact LookR.nil | refine LookR.cons ?_ ?_)) <;> first | exact .inl ⟨rfl, rfl⟩ | exact .inr ⟨rfl, fun _ h => by cases h⟩ | exact .inl ⟨rfl, by first | rfl | assumption | exact (intsC_pure _)⟩
  · (repeat' (first | exact all_mt | refine all_up ?_ ?_)) <;> first | exact ⟨rfl, _, rfl, .inr ⟨rfl, rfl⟩⟩ | exact ⟨rfl, _, rfl, .inl rfl⟩ | exact ⟨rfl, _, rfl, .inr ⟨rfl, by first | rfl | assumption | exact (intsC_pure _)⟩⟩
  rintro i hIA ihA
  try (dsimp only at hIA)
  try dsimp only [baseT, List.cons_append, List.nil_append]
  obtain ⟨hi, hr⟩ := hIA
  have hzl : (List.zipWith sgn3 X Y).length = 5 := by simp [hXl, hYl]
  by_cases hc : i < 5
  rotate_left
  · have g1 : decide ((i : Int) < 5) = false := decide_eq_false (by omega)
    have h0 : R = (0, 0) := by rw [← hr, List.drop_eq_nil_of_le (by omega)]; rfl
    repeat (refine W.seq ?_)
    refine W.region 28 29 (by decide) rfl rfl ?_
    refine RW.opd rfl rfl (LO.lss rfl rfl rfl) ?_
    refine RW.nil ?_
    repeat (refine W.seq ?_)
    refine W.cond_f rfl (by first | rfl | assumption) ?_
    refine W.exit ?_
    repeat (refine W.seq ?_)
    refine W.region 83 85 (by decide) rfl rfl ?_
    refine RW.opd rfl rfl (LO.assign rfl rfl) ?_
    refine RW.opd rfl rfl (LO.assign rfl rfl) ?_
    refine RW.nil ?_
    repeat (refine W.seq ?_)
    refine W.ret ⟨.inl rfl, _, mt, (RVs.cons (RV.tmp rfl) (RVs.cons (RV.tmp rfl) RVs.nil)), (by (repeat' (first | exact all_mt | refine all_up ?_ ?_)) <;> rfl), ?_⟩
    exact ⟨by rw [h0]; rfl, rfl⟩
  have g1 : decide ((i : Int) < 5) = true := decide_eq_true (by omega)
  have hii : (i : Int) + 1 = ((i + 1 : Nat) : Int) := by omega
  have hx := ints_at (l := X) (i := i) (by omega)
  have hy := ints_at (l := Y) (i := i) (by omega)
  have hd : (List.zipWith sgn3 X Y).drop i = sgn3 (X.getD i 0) (Y.getD i 0) :: (List.zipWith sgn3 X Y).drop (i + 1) := by
    rw [List.drop_eq_getElem_cons (by omega)]
    simp [List.getD, show i < X.length by omega, show i < Y.length by omega]
  obtain ⟨x, hxe⟩ : ∃ x, X.getD i 0 = x := ⟨_, rfl⟩
  obtain ⟨y, hye⟩ : ∃ y, Y.getD i 0 = y := ⟨_, rfl⟩
  rw [hxe] at hx hd
  rw [hye] at hy hd
  rw [hd] at hr
  unfold fnz sgn3 at hr
  repeat (refine W.seq ?_)
  refine W.region 28 29 (by decide) rfl rfl ?_
  refine RW.opd rfl rfl (LO.lss rfl rfl rfl) ?_
  refine RW.nil ?_
  repeat (refine W.seq ?_)
  refine W.cond_t rfl (by first | rfl | assumption) ?_
  refine W.skip ?_
  repeat (refine W.seq ?_)
  refine W.block ?_
  repeat (refine W.seq ?_)
  refine W.region 33 35 (by decide) rfl rfl ?_
  refine RW.opd rfl rfl (LO.move rfl rfl) ?_
  refine RW.opd rfl rfl (LO.assign rfl rfl) ?_
  refine RW.nil ?_
  repeat (refine W.seq ?_)
  refine W.regionD 39 46 (by decide) rfl mixed rfl ?_
  refine RW.opd rfl rfl (LO.move rfl rfl) ?_
  refine RW.opd rfl rfl (LO.indexAddr_ar rfl rfl rfl rfl ty68 ty3 ?_) ?_; (· (first | omega | decide | assumption | fail | (simp; done) | (simp; omega)))
  refine RW.opd rfl rfl (LO.load rfl rfl rfl hx ty3 rfl) ?_
  refine RW.opd rfl rfl (LO.move rfl rfl) ?_
  refine RW.opd rfl rfl (LO.indexAddr_ar rfl rfl rfl rfl ty68 ty3 ?_) ?_; (· (first | omega | decide | assumption | fail | (simp; done) | (simp; omega)))
  refine RW.opd rfl rfl (LO.load rfl rfl rfl hy ty3 rfl) ?_
  refine RW.opd rfl rfl (LO.lss rfl rfl rfl) ?_
  refine RW.nil ⟨by kernel_rfl, ?_⟩
  by_cases c1 : x < y
  · have g2 : decide (x < y) = true := decide_eq_true c1
    rw [if_pos c1, if_neg (by decide)] at hr
    repeat (refine W.seq ?_)
    refine W.cond_t rfl (by first | rfl | assumption) ?_
    repeat (refine W.seq ?_)
    refine W.region 50 54 (by decide) rfl rfl ?_
    refine RW.opd rfl rfl (LO.move rfl rfl) ?_
    refine RW.opd rfl rfl (LO.add_in rfl rfl rfl ?_) ?_; (· (first | exact IntWalk.i64_in _ (by omega) | assumption))
    refine RW.opd rfl rfl (LO.assign rfl rfl) ?_
    refine RW.opd rfl rfl (LO.assign rfl rfl) ?_
    refine RW.nil ?_
    repeat (refine W.seq ?_)
    refine W.ret ⟨.inl rfl, _, mt, (RVs.cons (RV.tmp rfl) (RVs.cons (RV.tmp rfl) RVs.nil)), (by (repeat' (first | exact all_mt | refine all_up ?_ ?_)) <;> rfl), ?_⟩
    exact ⟨by rw [← hr]; rfl, rfl⟩
  have g2 : decide (x < y) = false := decide_eq_false c1
  rw [if_neg c1] at hr
  repeat (refine W.seq ?_)
  refine W.cond_f rfl (by first | rfl | assumption) ?_
  refine W.skip ?_
  repeat (refine W.seq ?_)
  refine W.regionD 58 65 (by decide) rfl mixed rfl ?_
  refine RW.opd rfl rfl (LO.move rfl rfl) ?_
  refine RW.opd rfl rfl (LO.indexAddr_ar rfl rfl rfl rfl ty68 ty3 ?_) ?_; (· (first | omega | decide | assumption | fail | (simp; done) | (simp; omega)))
  refine RW.opd rfl rfl (LO.load rfl rfl rfl hx ty3 rfl) ?_
  refine RW.opd rfl rfl (LO.move rfl rfl) ?_
  refine RW.opd rfl rfl (LO.indexAddr_ar rfl rfl rfl rfl ty68 ty3 ?_) ?_; (· (first | omega | decide | assumption | fail | (simp; done) | (simp; omega)))
  refine RW.opd rfl rfl (LO.load rfl rfl rfl hy ty3 rfl) ?_
  refine RW.opd rfl rfl (LO.gtr rfl rfl rfl) ?_
  refine RW.nil ⟨by kernel_rfl, ?_⟩
  by_cases c2 : y < x
  · have g3 : decide (x > y) = true := decide_eq_true c2
    rw [if_pos c2, if_neg (by decide)] at hr
    repeat (refine W.seq ?_)
    refine W.cond_t rfl (by first | rfl | assumption) ?_
    repeat (refine W.seq ?_)
    refine W.region 69 73 (by decide) rfl rfl ?_
    refine RW.opd rfl rfl (LO.move rfl rfl) ?_
    refine RW.opd rfl rfl (LO.add_in rfl rfl rfl ?_) ?_; (· (first | exact IntWalk.i64_in _ (by omega) | assumption))
    refine RW.opd rfl rfl (LO.assign rfl rfl) ?_
    refine RW.opd rfl rfl (LO.assign rfl rfl) ?_
    refine RW.nil ?_
    repeat (refine W.seq ?_)
    refine W.ret ⟨.inl rfl, _, mt, (RVs.cons (RV.tmp rfl) (RVs.cons (RV.tmp rfl) RVs.nil)), (by (repeat' (first | exact all_mt | refine all_up ?_ ?_)) <;> rfl), ?_⟩
    exact ⟨by rw [← hr]; rfl, rfl⟩
  have g3 : decide (x > y) = false := decide_eq_false c2
  rw [if_neg c2, if_pos rfl, hii] at hr
  repeat (refine W.seq ?_)
  refine W.cond_f rfl (by first | rfl | assumption) ?_
  refine W.skip ?_
  repeat (refine W.seq ?_)
  refine W.region 77 79 (by decide) rfl rfl ?_
  refine RW.opd rfl rfl (LO.add_in rfl rfl rfl ?_) ?_; (· (first | exact IntWalk.i64_in _ (by omega) | assumption))
  refine RW.opd rfl rfl (LO.move rfl rfl) ?_
  refine RW.nil ?_
  rw [hii]
  refine WL.renameL [(0, 0), (1, 1)] 2 (by decide) ?_ ?_ (ihA (i + 1) (show 5 - (i + 1) < 5 - i from by omega) (show (i + 1) ≤ 5 ∧ fnz ((List.zipWith sgn3 X Y).drop (i + 1)) ((i + 1) : Int) = R from ⟨by omega, hr⟩))
  · (repeat' (first | exact LookR.nil | refine LookR.cons ?_ ?_)) <;> first | exact .inl ⟨rfl, rfl⟩ | exact .inr ⟨rfl, fun _ h => by cases h⟩ | exact .inl ⟨rfl, by first | rfl | assumption | exact (intsC_pure _)⟩
  · (repeat' (first | exact all_mt | refine all_up ?_ ?_)) <;> first | exact ⟨rfl, _, rfl, .inr ⟨rfl, rfl⟩⟩ | exact ⟨rfl, _, rfl, .inl rfl⟩ | exact ⟨rfl, _, rfl, .inr ⟨rfl, by first | rfl | assumption | exact (intsC_pure _)⟩⟩
def zAt : At := ⟨0, [], ⟨false, 0, 0⟩, 0, 0, 0, [], 0, [], 0, [], 0⟩
def zRt : Rt := ⟨⟨false, 0, 0, 0⟩, 0, zAt⟩
def gR (l : List Rt) (i : Nat) : Rt := l.getD i zRt
theorem gR_at {l : List Rt} {i : Nat} (h : i < l.length) : gR l i = l[i] := by simp [gR, h]
theorem gR_tk {l : List Rt} {i : Nat} (h : i < l.length) : Tk (rtsC l) (i * 16) 16 (rtC (gR l i)) := by
  have := rts_at h
  rw [Nat.zero_add] at this
  rw [gR_at h]
  exact this
def bestK (p : Po) (l : List Rt) : Nat → Nat
  | 0 => 0
  | k + 1 => if (cmpF p (gR l k) (gR l (bestK p l k))).1 < 0 then k else bestK p l k
theorem bestK_lt (p : Po) (l : List Rt) : ∀ k, bestK p l (k + 1) ≤ k := by
  intro k
  induction k with
  | zero => unfold bestK; split <;> simp [bestK]
  | succ k ih => unfold bestK; split <;> omega
theorem po_lit (p : Po) : poC p = [.base (.int .i64 p.asn), .base (.bool p.n4), .base (.bool p.n6), .base (.bool p.hol), .base (.int .i64 p.hops), .isl p.dc p.dn, .isl (prsC p.pr) p.pr.length] := rfl
set_option maxHeartbeats 2000000 in
theorem best_any (p : Po) (l : List Rt) (hp : p.pr.length ≤ 1000) (hl : l.length ≤ 1000) (ho : ∀ r ∈ l, OkR r) : AFn Try.prog 16 0 [.agg (poC p), .isl (rtsC l) l.length] mt (.tup [.base (.int .i64 (bestK p l l.length : Nat)), .base (.bool (decide (l.length ≠ 0)))]) mt := by
  refine AFn.eq Try.func16 rfl rfl (Nat.le_of_ble_eq_true rfl) ?_
  by_cases h0 : l.length = 0
  · have g1 : ((l.length : Int) == 0) = true := by rw [h0]; rfl
    repeat (refine W.seq ?_)
    refine W.region 0 3 (by decide) rfl rfl ?_
    refine RW.opd rfl rfl (LO.box rfl rfl rfl) ?_
    refine RW.opd rfl rfl (LO.assign rfl rfl) ?_
    refine RW.opd rfl rfl (LO.assign rfl rfl) ?_
    refine RW.nil ?_
    repeat (refine W.seq ?_)
    refine W.region 7 10 (by decide) rfl rfl ?_
    refine RW.opd rfl rfl (LO.move rfl rfl) ?_
    refine RW.opd rfl rfl (LO.len_isl rfl rfl rfl ty29) ?_
    refine RW.opd rfl rfl (LO.eql rfl rfl rfl) ?_
    refine RW.nil ?_
    repeat (refine W.seq ?_)
    refine W.cond_t rfl (by first | rfl | assumption) ?_
    repeat (refine W.seq ?_)
    refine W.region 14 16 (by decide) rfl rfl ?_
    refine RW.opd rfl rfl (LO.assign rfl rfl) ?_
    refine RW.opd rfl rfl (LO.assign rfl rfl) ?_
    refine RW.nil ?_
    repeat (refine W.seq ?_)
    refine W.ret ⟨.inl rfl, _, mt, (RVs.cons (RV.tmp rfl) (RVs.cons (RV.tmp rfl) RVs.nil)), (by (repeat' (first | exact all_mt | refine all_up ?_ ?_)) <;> rfl), ?_⟩
    exact ⟨by rw [h0]; rfl, rfl⟩
  have g1 : ((l.length : Int) == 0) = false := by rw [beq_eq_false_iff_ne]; omega
  rw [po_lit]
  repeat (refine W.seq ?_)
  refine W.region 0 3 (by decide) rfl rfl ?_
  refine RW.opd rfl rfl (LO.box rfl rfl rfl) ?_
  refine RW.opd rfl rfl (LO.assign rfl rfl) ?_
  refine RW.opd rfl rfl (LO.assign rfl rfl) ?_
  refine RW.nil ?_
  repeat (refine W.seq ?_)
  refine W.region 7 10 (by decide) rfl rfl ?_
  refine RW.opd rfl rfl (LO.move rfl rfl) ?_
  refine RW.opd rfl rfl (LO.len_isl rfl rfl rfl ty29) ?_
  refine RW.opd rfl rfl (LO.eql rfl rfl rfl) ?_
  refine RW.nil ?_
  repeat (refine W.seq ?_)
  refine W.cond_f rfl (by first | rfl | assumption) ?_
  refine W.skip ?_
  repeat (refine W.seq ?_)
  refine W.region 20 21 (by decide) rfl rfl ?_
  refine RW.opd rfl rfl (LO.assign rfl rfl) ?_
  refine RW.nil ?_
  repeat (refine W.seq ?_)
  refine W.region 25 28 (by decide) rfl rfl ?_
  refine RW.opd rfl rfl (LO.move rfl rfl) ?_
  refine RW.opd rfl rfl (LO.len_isl rfl rfl rfl ty29) ?_
  refine RW.opd rfl rfl (LO.move rfl rfl) ?_
  refine RW.nil ?_
  repeat (refine W.seq ?_)
  refine W.block ?_
  refine W.loop_keep (α := Nat × Nat) (fun x => l.length - x.1) 1 (fun x => [(2, .own 0 0), (6, .base (.int .i64 (x.2 : Int))), (15, .base (.int .i64 (x.1 : Int)))]) (fun x => up mt 0 (some ([.base (.int .i64 p.asn), .base (.bool p.n4), .base (.bool p.n6), .base (.bool p.hol), .base (.int .i64 p.hops), .isl p.dc p.dn, .isl (prsC p.pr) p.pr.length]))) (fun x => x.1 ≤ l.length ∧ bestK p l x.1 = x.2) (0, 0) [(0, 0)] (.cons (t := 1) rfl (by first | exact .inl rfl | exact .inr ⟨rfl, fun _ h => by cases h⟩ | (exact .inl (by assumption)) ) (.cons (t := 14) rfl (by first | exact .inl rfl | exact .inr ⟨rfl, fun _ h => by cases h⟩ | (exact .inl (by assumption)) ) .nil)) (show 0 ≤ l.length ∧ bestK p l 0 = 0 from ⟨Nat.zero_le _, rfl⟩) (by decide) ?_ ?_ ?_
  · (repeat' (first | exact LookR.nil | refine LookR.cons ?_ ?_)) <;> first | exact .inl ⟨rfl, rfl⟩ | exact .inr ⟨rfl, fun _ h => by cases h⟩ | exact .inl ⟨rfl, by first | rfl | assumption ⟩
  · (repeat' (first | exact all_mt | refine all_up ?_ ?_)) <;> first | exact ⟨rfl, _, rfl, .inr ⟨rfl, rfl⟩⟩ | exact ⟨rfl, _, rfl, .inl rfl⟩ | exact ⟨rfl, _, rfl, .inr ⟨rfl, by first | rfl | assumption ⟩⟩
  rintro ⟨i, bi⟩ hIA ihA
  try (dsimp only at hIA)
  try dsimp only [baseT, List.cons_append, List.nil_append]
  obtain ⟨hi, hbie⟩ := hIA
  by_cases hc : i < l.length
  rotate_left
  · have g2 : decide ((i : Int) < (l.length : Int)) = false := decide_eq_false (by omega)
    have he : i = l.length := by omega
    repeat (refine W.seq ?_)
    refine W.region 32 33 (by decide) rfl rfl ?_
    refine RW.opd rfl rfl (LO.lss rfl rfl rfl) ?_
    refine RW.nil ?_
    repeat (refine W.seq ?_)
    refine W.cond_f rfl (by first | rfl | assumption) ?_
    refine W.exit ?_
    repeat (refine W.seq ?_)
    refine W.region 80 83 (by decide) rfl rfl ?_
    refine RW.opd rfl rfl (LO.move rfl rfl) ?_
    refine RW.opd rfl rfl (LO.assign rfl rfl) ?_
    refine RW.opd rfl rfl (LO.assign rfl rfl) ?_
    refine RW.nil ?_
    repeat (refine W.seq ?_)
    refine W.ret ⟨.inl rfl, _, mt, (RVs.cons (RV.tmp rfl) (RVs.cons (RV.tmp rfl) RVs.nil)), (by (repeat' (first | exact all_mt | refine all_up ?_ ?_)) <;> rfl), ?_⟩
    exact ⟨by rw [← hbie, he, show decide (l.length ≠ 0) = true from decide_eq_true h0]; rfl, rfl⟩
  have g2 : decide ((i : Int) < (l.length : Int)) = true := decide_eq_true (by omega)
  have hii : (i : Int) + 1 = ((i + 1 : Nat) : Int) := by omega
  have hbi : bestK p l i < l.length := by
    cases i with
    | zero => show 0 < l.length; omega
    | succ i => have := bestK_lt p l i; omega
  have hc1 := compare_any p (gR l i) (gR l (bestK p l i)) hp (by rw [gR_at hc]; exact ho _ (List.getElem_mem _)) (by rw [gR_at hbi]; exact ho _ (List.getElem_mem _))
  have hb2 : bestK p l (i + 1) = if (cmpF p (gR l i) (gR l (bestK p l i))).1 < 0 then i else bestK p l i := rfl
  have t1 := gR_tk hc
  have t2 := gR_tk hbi
  unfold cmpV at hc1
  rw [hbie] at hc1 hb2 hbi t2
  obtain ⟨cx, hcx⟩ : ∃ cx, (cmpF p (gR l i) (gR l bi)).1 = cx := ⟨_, rfl⟩
  rw [hcx] at hc1 hb2
  repeat (refine W.seq ?_)
  refine W.region 32 33 (by decide) rfl rfl ?_
  refine RW.opd rfl rfl (LO.lss rfl rfl rfl) ?_
  refine RW.nil ?_
  repeat (refine W.seq ?_)
  refine W.cond_t rfl (by first | rfl | assumption) ?_
  refine W.skip ?_
  repeat (refine W.seq ?_)
  refine W.block ?_
  repeat (refine W.seq ?_)
  refine W.region 37 39 (by decide) rfl rfl ?_
  refine RW.opd rfl rfl (LO.move rfl rfl) ?_
  refine RW.opd rfl rfl (LO.assign rfl rfl) ?_
  refine RW.nil ?_
  repeat (refine W.seq ?_)
  refine W.regionD 43 58 (by decide) rfl mixed rfl ?_
  refine RW.opd rfl rfl (LO.load_agg rfl rfl rfl ty27 rfl (Tk.lit rfl)) ?_
  refine RW.opd rfl rfl (LO.move rfl rfl) ?_
  refine RW.opd rfl rfl (LO.move rfl rfl) ?_
  refine RW.opd rfl rfl (LO.indexAddr_isl rfl rfl rfl rfl rfl ty29 ty43 ?_) ?_; (· (first | omega | decide | assumption | fail | (simp; done) | (simp; omega)))
  refine RW.opd rfl rfl (LO.load_imm_agg rfl rfl ty43 rfl t1) ?_
  refine RW.opd rfl rfl (LO.move rfl rfl) ?_
  refine RW.opd rfl rfl (LO.move rfl rfl) ?_
  refine RW.opd rfl rfl (LO.indexAddr_isl rfl rfl rfl rfl rfl ty29 ty43 ?_) ?_; (· (first | omega | decide | assumption | fail | (simp; done) | (simp; omega)))
  refine RW.opd rfl rfl (LO.load_imm_agg rfl rfl ty43 rfl t2) ?_
  refine RW.opd rfl rfl (LO.call0 (fr := []) rfl rfl (hc1) fok13 (.cons rfl (.pure rfl) (.cons rfl (.pure (rtC_pure (gR l i))) (.cons rfl (.pure (rtC_pure (gR l bi))) .nil))) rfl) ?_
  refine RW.opd rfl rfl (LO.move rfl rfl) ?_
  refine RW.opd rfl rfl (LO.extract rfl rfl rfl) ?_
  refine RW.opd rfl rfl (LO.extract rfl rfl rfl) ?_
  refine RW.opd rfl rfl (LO.assign rfl rfl) ?_
  refine RW.opd rfl rfl (LO.assign rfl rfl) ?_
  refine RW.nil ⟨by kernel_rfl, ?_⟩
  repeat (refine W.seq ?_)
  refine W.region 62 64 (by decide) rfl rfl ?_
  refine RW.opd rfl rfl (LO.move rfl rfl) ?_
  refine RW.opd rfl rfl (LO.lss rfl rfl rfl) ?_
  refine RW.nil ?_
  by_cases c1 : cx < 0
  · have g3 : decide (cx < 0) = true := decide_eq_true c1
    rw [if_pos c1] at hb2
    repeat (refine W.seq ?_)
    refine W.cond_t rfl (by first | rfl | assumption) ?_
    repeat (refine W.seq ?_)
    refine W.region 68 70 (by decide) rfl rfl ?_
    refine RW.opd rfl rfl (LO.move rfl rfl) ?_
    refine RW.opd rfl rfl (LO.assign rfl rfl) ?_
    refine RW.nil ?_
    repeat (refine W.seq ?_)
    refine W.region 74 76 (by decide) rfl rfl ?_
    refine RW.opd rfl rfl (LO.add_in rfl rfl rfl ?_) ?_; (· (first | exact IntWalk.i64_in _ (by omega) | assumption))
    refine RW.opd rfl rfl (LO.move rfl rfl) ?_
    refine RW.nil ?_
    rw [hii]
    refine WL.renameL [(0, 0)] 1 (by decide) ?_ ?_ (ihA ((i + 1), i) (show l.length - (i + 1) < l.length - i from by omega) (show (i + 1) ≤ l.length ∧ bestK p l (i + 1) = i from ⟨by omega, hb2⟩))
    · (repeat' (first | exact LookR.nil | refine LookR.cons ?_ ?_)) <;> first | exact .inl ⟨rfl, rfl⟩ | exact .inr ⟨rfl, fun _ h => by cases h⟩ | exact .inl ⟨rfl, by first | rfl | assumption ⟩
    · (repeat' (first | exact all_mt | refine all_up ?_ ?_)) <;> first | exact ⟨rfl, _, rfl, .inr ⟨rfl, rfl⟩⟩ | exact ⟨rfl, _, rfl, .inl rfl⟩ | exact ⟨rfl, _, rfl, .inr ⟨rfl, by first | rfl | assumption ⟩⟩
  · have g3 : decide (cx < 0) = false := decide_eq_false c1
    rw [if_neg c1] at hb2
    repeat (refine W.seq ?_)
    refine W.cond_f rfl (by first | rfl | assumption) ?_
    refine W.skip ?_
    repeat (refine W.seq ?_)
    refine W.region 74 76 (by decide) rfl rfl ?_
    refine RW.opd rfl rfl (LO.add_in rfl rfl rfl ?_) ?_; (· (first | exact IntWalk.i64_in _ (by omega) | assumption))
    refine RW.opd rfl rfl (LO.move rfl rfl) ?_
    refine RW.nil ?_
    rw [hii]
    refine WL.renameL [(0, 0)] 1 (by decide) ?_ ?_ (ihA ((i + 1), bi) (show l.length - (i + 1) < l.length - i from by omega) (show (i + 1) ≤ l.length ∧ bestK p l (i + 1) = bi from ⟨by omega, hb2⟩))
    · (repeat' (first | exact LookR.nil | refine LookR.cons ?_ ?_)) <;> first | exact .inl ⟨rfl, rfl⟩ | exact .inr ⟨rfl, fun _ h => by cases h⟩ | exact .inl ⟨rfl, by first | rfl | assumption ⟩
    · (repeat' (first | exact all_mt | refine all_up ?_ ?_)) <;> first | exact ⟨rfl, _, rfl, .inr ⟨rfl, rfl⟩⟩ | exact ⟨rfl, _, rfl, .inl rfl⟩ | exact ⟨rfl, _, rfl, .inr ⟨rfl, by first | rfl | assumption ⟩⟩
end Go.Proofs.Ytgklkocmimjifaa
