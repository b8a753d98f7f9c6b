/-
  Chapter 14: the document's hash, addresses of stations, the example, ways by the program and by the document.
-/
import Derived.Test.YthbdngfnbpkefaaIa
import Derived.Test.YthbdngfnbpkefaaGc
namespace Go.Proofs.Ythbdngfnbpkefaa
open Go.RowKit

theorem by_len {l : List Int} {n : Nat} (h : l.length = n) : (bytesC l).length = n * 1 := by simp [bytesC, h]
theorem hashX_any (a b : List Int) (ha : a.length = 6) (hb : b.length = 6) (hba : IsBy a) (hbb : IsBy b) : AFn Try.prog 30 0 [.agg (bytesC a), .agg (bytesC b)] mt (.base (.int .i64 (hashF (a ++ b)))) mt := by
  refine AFn.eq Try.func30 rfl rfl (Nat.le_of_ble_eq_true rfl) ?_
  have h12 : (a ++ b).length = 12 := by rw [List.length_append, ha, hb]
  have hab : bytesC a ++ bytesC b = bytesC (a ++ b) := by simp [bytesC]
  have hby := hba.app hbb
  unfold hashF
  rw [h12]
  generalize hl : a ++ b = l at *
  repeat (refine W.seq ?_)
  refine W.region 0 3 (by decide) rfl rfl ?_
  refine RW.opd rfl rfl (LO.box rfl rfl rfl) ?_
  refine RW.opd rfl rfl (LO.box rfl rfl rfl) ?_
  refine RW.opd rfl rfl (LO.assign rfl rfl) ?_
  refine RW.nil ?_
  repeat (refine W.seq ?_)
  refine W.region 7 8 (by decide) rfl rfl ?_
  refine RW.opd rfl rfl (LO.assign rfl rfl) ?_
  refine RW.nil ?_
  repeat (refine W.seq ?_)
  refine W.regionD 12 18 (by decide) rfl mixed rfl ?_
  refine RW.opd rfl rfl (LO.slice_arf rfl rfl rfl ty42 ty5 (bytes_tk ha) (bytesC_pure _) (by decide)) ?_
  refine RW.opd rfl rfl (LO.append_nil rfl rfl (SrcAV.isl rfl rfl ?_) ty73 ty73 ty5 (by decide) ?_ ?_ ?_) ?_; (· (first | rfl | assumption | first | exact by_len ha | exact by_len hb)); (· (first | omega | decide | assumption | first | exact by_len ha | exact by_len hb | (simp; done) | (simp; omega))); (· (first | omega | decide | assumption | first | exact by_len ha | exact by_len hb | (simp; done) | (simp; omega))); (· (first | decide | omega))
  refine RW.opd rfl rfl (LO.slice_arf rfl rfl rfl ty42 ty5 (bytes_tk hb) (bytesC_pure _) (by decide)) ?_
  refine RW.opd rfl rfl (LO.append rfl rfl (SrcAV.isl rfl rfl ?_) rfl (bytes_tk ha) ty73 ty73 ty5 (by decide) ?_ ?_ ?_) ?_; (· (first | rfl | assumption | first | exact by_len ha | exact by_len hb)); (· (first | omega | decide | assumption | first | exact by_len ha | exact by_len hb | (simp; done) | (simp; omega))); (· (first | omega | decide | assumption | first | exact by_len ha | exact by_len hb | (simp; done) | (simp; omega))); (· (first | decide | omega))
  refine RW.opd rfl rfl (LO.len rfl rfl ty73) ?_
  refine RW.opd rfl rfl (LO.move rfl rfl) ?_
  refine RW.nil ⟨by kernel_rfl, ?_⟩
  rw [hab]
  repeat (refine W.seq ?_)
  refine W.block ?_
  refine W.loop_keep (α := Nat) (fun x => 12 - x) 1 (fun x => [(5, .base (.int .i64 (hashK l x))), (11, .osl 0 0 12 1), (13, .base (.int .i64 (x : Int)))]) (fun x => up mt 0 (some (bytesC l))) (fun x => x ≤ 12) 0 [(0, 15)] (.cons (t := 12) rfl (by first | exact .inl rfl | exact .inr ⟨rfl, fun _ h => by cases h⟩ | (exact .inl (by assumption)) | exact .inl (bytesC_pure _)) .nil) (show 0 ≤ 12 from Nat.zero_le _) (by decide) ?_ ?_ ?_
  · (repeat' (first | exact LookR.nil | refine LookR.cons ?_ ?_)) <;> first | exact .inl ⟨rfl, rfl⟩ | exact .inr ⟨rfl, fun _ h => by cases h⟩ | exact .inl ⟨rfl, by first | rfl | assumption | exact (bytesC_pure _)⟩
  · (repeat' (first | exact all_mt | refine all_up ?_ ?_)) <;> first | exact ⟨rfl, _, rfl, .inr ⟨rfl, rfl⟩⟩ | exact ⟨rfl, _, rfl, .inl rfl⟩ | exact ⟨rfl, _, rfl, .inr ⟨rfl, by first | rfl | assumption | exact (bytesC_pure _)⟩⟩
  rintro i hIA ihA
  try (dsimp only at hIA)
  try dsimp only [baseT, List.cons_append, List.nil_append]
  by_cases hc : i < 12
  · have g1 : decide ((i : Int) < 12) = true := decide_eq_true (by omega)
    have hk := hashK_bd hby h12 i hIA
    have ht := hash_term hby h12 hc
    have hs := hashK_succ l i
    have hil : i < l.length := by omega
    rw [gI_at hil] at ht hs
    have hb2 := hby l[i] (List.getElem_mem _)
    repeat (refine W.seq ?_)
    refine W.region 22 23 (by decide) rfl rfl ?_
    refine RW.opd rfl rfl (LO.lss rfl rfl rfl) ?_
    refine RW.nil ?_
    repeat (refine W.seq ?_)
    refine W.cond_t rfl (by first | rfl | assumption) ?_
    refine W.skip ?_
    repeat (refine W.seq ?_)
    refine W.block ?_
    repeat (refine W.seq ?_)
    refine W.region 27 32 (by decide) rfl rfl ?_
    refine RW.opd rfl rfl (LO.move rfl rfl) ?_
    refine RW.opd rfl rfl (LO.indexAddr rfl rfl rfl rfl ty73 ty5 ?_) ?_; (· (first | omega | decide | assumption | fail | (simp; done) | (simp; omega)))
    refine RW.opd rfl rfl (LO.load rfl rfl rfl (by_at hil) ty5 rfl) ?_
    refine RW.opd rfl rfl (LO.assign rfl rfl) ?_
    refine RW.opd rfl rfl (LO.assign rfl rfl) ?_
    refine RW.nil ?_
    repeat (refine W.seq ?_)
    refine W.region 36 44 (by decide) rfl rfl ?_
    refine RW.opd rfl rfl (LO.move rfl rfl) ?_
    refine RW.opd rfl rfl (LO.move rfl rfl) ?_
    refine RW.opd rfl rfl (LO.add_in rfl rfl rfl ?_) ?_; (· (first | exact IntWalk.i64_in _ (by omega) | assumption))
    refine RW.opd rfl rfl (LO.move rfl rfl) ?_
    refine RW.opd rfl rfl (LO.conv_in rfl rfl ty5 ty3 ?_) ?_; (· (first | exact IntWalk.i64_in _ (by omega) | assumption))
    refine RW.opd rfl rfl (LO.mul_in rfl rfl rfl ?_) ?_; (· (first | exact IntWalk.i64_in _ (by omega) | assumption))
    refine RW.opd rfl rfl (LO.add_in rfl rfl rfl ?_) ?_; (· (first | exact IntWalk.i64_in _ (by omega) | assumption))
    refine RW.opd rfl rfl (LO.assign rfl rfl) ?_
    refine RW.nil ?_
    rw [← hs]
    repeat (refine W.seq ?_)
    refine W.region 48 50 (by decide) rfl rfl ?_
    refine RW.opd rfl rfl (LO.add_in rfl rfl rfl ?_) ?_; (· (first | exact IntWalk.i64_in _ (by omega) | assumption))
    refine RW.opd rfl rfl (LO.move rfl rfl) ?_
    refine RW.nil ?_
    refine WL.renameL [(0, 0)] 1 (by decide) ?_ ?_ (ihA (i + 1) (show 12 - (i + 1) < 12 - i from by omega) (show (i + 1) ≤ 12 from by omega))
    · (repeat' (first | exact LookR.nil | refine LookR.cons ?_ ?_)) <;> first | exact .inl ⟨rfl, rfl⟩ | exact .inr ⟨rfl, fun _ h => by cases h⟩ | exact .inl ⟨rfl, by first | rfl | assumption | exact (bytesC_pure _)⟩
    · (repeat' (first | exact all_mt | refine all_up ?_ ?_)) <;> first | exact ⟨rfl, _, rfl, .inr ⟨rfl, rfl⟩⟩ | exact ⟨rfl, _, rfl, .inl rfl⟩ | exact ⟨rfl, _, rfl, .inr ⟨rfl, by first | rfl | assumption | exact (bytesC_pure _)⟩⟩
  · have g1 : decide ((i : Int) < 12) = false := decide_eq_false (by omega)
    repeat (refine W.seq ?_)
    refine W.region 22 23 (by decide) rfl rfl ?_
    refine RW.opd rfl rfl (LO.lss rfl rfl rfl) ?_
    refine RW.nil ?_
    repeat (refine W.seq ?_)
    refine W.cond_f rfl (by first | rfl | assumption) ?_
    refine W.exit ?_
    obtain rfl : i = 12 := by omega
    have hk := hashK_bd hby h12 12 (by omega)
    repeat (refine W.seq ?_)
    refine W.region 54 57 (by decide) rfl rfl ?_
    refine RW.opd rfl rfl (LO.move rfl rfl) ?_
    refine RW.opd rfl rfl (LO.rem_in rfl rfl rfl ?_ ?_) ?_; (· (first | omega)); (· (first | omega | decide | assumption | fail | (simp; done) | (simp; omega)))
    refine RW.opd rfl rfl (LO.assign rfl rfl) ?_
    refine RW.nil ?_
    repeat (refine W.seq ?_)
    refine W.ret ⟨.inl rfl, _, mt, RVs.cons (RV.tmp rfl) (RVs.nil), all_mt, ?_⟩
    exact ⟨rfl, rfl⟩
def macF (n : Int) : List Int := [2, 0, IntKind.u8.wrap (n.fdiv (2 ^ (min (24 : Int).toNat IntKind.i64.bits))), IntKind.u8.wrap (n.fdiv (2 ^ (min (16 : Int).toNat IntKind.i64.bits))), IntKind.u8.wrap (n.fdiv (2 ^ (min (8 : Int).toNat IntKind.i64.bits))), IntKind.u8.wrap n]
theorem u8_wrap (n : Int) : 0 ≤ IntKind.u8.wrap n ∧ IntKind.u8.wrap n ≤ 255 := by
  unfold IntKind.wrap; simp [IntKind.signed, IntKind.bits]; omega
theorem macF_by (n : Int) : IsBy (macF n) := fun x hx => by
  have h24 := u8_wrap (n.fdiv (2 ^ (min (24 : Int).toNat IntKind.i64.bits)))
  have h16 := u8_wrap (n.fdiv (2 ^ (min (16 : Int).toNat IntKind.i64.bits)))
  have h8 := u8_wrap (n.fdiv (2 ^ (min (8 : Int).toNat IntKind.i64.bits)))
  have h0 := u8_wrap n
  simp only [macF, List.mem_cons, List.not_mem_nil, or_false] at hx
  rcases hx with rfl | rfl | rfl | rfl | rfl | rfl
  · decide
  · decide
  · exact h24
  · exact h16
  · exact h8
  · exact h0
theorem mac_any (n : Int) : AFn Try.prog 31 0 [.base (.int .i64 n)] mt (.agg (bytesC (macF n))) mt := by
  refine AFn.eq Try.func31 rfl rfl (Nat.le_of_ble_eq_true rfl) ?_
  repeat (refine W.seq ?_)
  refine W.region 0 1 (by decide) rfl rfl ?_
  refine RW.opd rfl rfl (LO.alloc rfl ty42) ?_
  refine RW.nil ?_
  repeat (refine W.seq ?_)
  refine W.region 5 18 (by decide) rfl rfl ?_
  refine RW.opd rfl rfl (LO.move rfl rfl) ?_
  refine RW.opd rfl rfl (LO.shr rfl rfl rfl ?_) ?_; (· (first | omega | decide | assumption | fail | (simp; done) | (simp; omega)))
  refine RW.opd rfl rfl (LO.conv rfl rfl ty3 ty5) ?_
  refine RW.opd rfl rfl (LO.move rfl rfl) ?_
  refine RW.opd rfl rfl (LO.shr rfl rfl rfl ?_) ?_; (· (first | omega | decide | assumption | fail | (simp; done) | (simp; omega)))
  refine RW.opd rfl rfl (LO.conv rfl rfl ty3 ty5) ?_
  refine RW.opd rfl rfl (LO.move rfl rfl) ?_
  refine RW.opd rfl rfl (LO.shr rfl rfl rfl ?_) ?_; (· (first | omega | decide | assumption | fail | (simp; done) | (simp; omega)))
  refine RW.opd rfl rfl (LO.conv rfl rfl ty3 ty5) ?_
  refine RW.opd rfl rfl (LO.move rfl rfl) ?_
  refine RW.opd rfl rfl (LO.conv rfl rfl ty3 ty5) ?_
  refine RW.opd rfl rfl (LO.build_ar rfl ty42 ty5 (.cons rfl rfl rfl rfl (Sp.lit rfl) (.cons rfl rfl rfl rfl (Sp.lit rfl) (.cons rfl rfl rfl rfl (Sp.lit rfl) (.cons rfl rfl rfl rfl (Sp.lit rfl) (.cons rfl rfl rfl rfl (Sp.lit rfl) (.cons rfl rfl rfl rfl (Sp.lit rfl) .nil))))))) ?_
  refine RW.opn rfl rfl (LO.store rfl rfl rfl rfl rfl ty42 rfl (by decide) (Sp.lit rfl)) ?_
  refine RW.nil ?_
  repeat (refine W.seq ?_)
  refine W.ret ⟨.inl rfl, _, mt, (RVs.cons (RV.cellA rfl rfl ty42 rfl (Tk.lit rfl)) RVs.nil), (by (repeat' (first | exact all_mt | refine all_up ?_ ?_)) <;> rfl), ?_⟩
  exact ⟨rfl, rfl⟩
def fab2 : Fab := ⟨2, [⟨1, 0, 1⟩], [false], [false, false]⟩
theorem fab2_s : FabS fab2 := ⟨rfl, by decide, by decide⟩
theorem fab2_e : EndsIn fab2 := fun i l h => by
  match i with
  | 0 => simp [fab2] at h; subst h; decide
  | i + 1 => simp [fab2] at h
theorem fab2_w1 : wayF fab2 0 1 5 = some [0] := by decide +kernel
theorem fab2_w2 : wayF fab2 0 2 5 = none := by decide +kernel
theorem ints14_any (a b : List Int) (ha : a.length ≤ 1000) : AFn Try.prog 28 0 [.isl (intsC a) a.length, .isl (intsC b) b.length] mt (.base (.bool (decide (a = b)))) mt := by
  refine AFn.eq Try.func28 rfl rfl (Nat.le_of_ble_eq_true rfl) ?_
  repeat (refine W.seq ?_)
  refine W.region 0 1 (by decide) rfl rfl ?_
  refine RW.opd rfl rfl (LO.assign rfl rfl) ?_
  refine RW.nil ?_
  by_cases hl : a.length = b.length
  · have g1 : ((a.length : Int) != (b.length : Int)) = false := by simp [hl]
    repeat (refine W.seq ?_)
    refine W.region 5 10 (by decide) rfl rfl ?_
    refine RW.opd rfl rfl (LO.move rfl rfl) ?_
    refine RW.opd rfl rfl (LO.len_isl rfl rfl rfl ty26) ?_
    refine RW.opd rfl rfl (LO.move rfl rfl) ?_
    refine RW.opd rfl rfl (LO.len_isl rfl rfl rfl ty26) ?_
    refine RW.opd rfl rfl (LO.neq rfl rfl rfl) ?_
    refine RW.nil ?_
    repeat (refine W.seq ?_)
    refine W.cond_f rfl (by first | rfl | assumption) ?_
    refine W.skip ?_
    repeat (refine W.seq ?_)
    refine W.region 19 22 (by decide) rfl rfl ?_
    refine RW.opd rfl rfl (LO.move rfl rfl) ?_
    refine RW.opd rfl rfl (LO.len_isl rfl rfl rfl ty26) ?_
    refine RW.opd rfl rfl (LO.move rfl rfl) ?_
    refine RW.nil ?_
    repeat (refine W.seq ?_)
    refine W.block ?_
    refine W.rename [] 0 (T' := up (up (up (up mt 1 (some (.isl (intsC b) b.length))) 12 (some (.isl (intsC a) a.length))) 13 (some (.base (.int .i64 (a.length : Int))))) 14 (some (.base (.int .i64 (0 : Int))))) (H' := mt) (by decide) ?_ ?_ ?_
    · (repeat' (first | exact all_mt | refine all_up ?_ ?_)) <;> first | exact .inl ⟨rfl, rfl⟩ | exact .inr ⟨rfl, fun _ h => by cases h⟩ | exact .inl ⟨rfl, by first | rfl | assumption | exact (bytesC_pure _)⟩
    · (repeat' (first | exact all_mt | refine all_up ?_ ?_)) <;> first | exact ⟨rfl, _, rfl, .inr ⟨rfl, rfl⟩⟩ | exact ⟨rfl, _, rfl, .inl rfl⟩ | exact ⟨rfl, _, rfl, .inr ⟨rfl, by first | rfl | assumption | exact (bytesC_pure _)⟩⟩
    refine W.loop_ind (α := Nat) (fun x => a.length - x) 0 (fun x => up (up (up (up mt 1 (some (.isl (intsC b) b.length))) 12 (some (.isl (intsC a) a.length))) 13 (some (.base (.int .i64 (a.length : Int))))) 14 (some (.base (.int .i64 (x : Int))))) (fun x => mt) (fun x => x ≤ a.length ∧ ∀ k : Nat, k < x → gI a k = gI b k) 0 (show 0 ≤ a.length ∧ ∀ k : Nat, k < 0 → gI a k = gI b k from ⟨Nat.zero_le _, fun k h => by omega⟩) ?_
    rintro i hIA ihA
    try (dsimp only at hIA)
    try dsimp only
    obtain ⟨hi, hs⟩ := hIA
    by_cases hc : i < a.length
    · have g2 : decide ((i : Int) < (a.length : Int)) = true := decide_eq_true (by omega)
      repeat (refine W.seq ?_)
      refine W.region 26 27 (by decide) rfl rfl ?_
      refine RW.opd rfl rfl (LO.lss rfl rfl rfl) ?_
      refine RW.nil ?_
      repeat (refine W.seq ?_)
      refine W.cond_t rfl (by first | rfl | assumption) ?_
      refine W.skip ?_
      repeat (refine W.seq ?_)
      refine W.block ?_
      repeat (refine W.seq ?_)
      refine W.region 31 36 (by decide) rfl rfl ?_
      refine RW.opd rfl rfl (LO.move rfl rfl) ?_
      refine RW.opd rfl rfl (LO.indexAddr_isl rfl rfl rfl rfl rfl ty26 ty3 ?_) ?_; (· (first | omega | decide | assumption | fail | (simp; done) | (simp; omega)))
      refine RW.opd rfl rfl (LO.load_imm rfl rfl (ni_at1 (k := i) hc) ty3 rfl) ?_
      refine RW.opd rfl rfl (LO.assign rfl rfl) ?_
      refine RW.opd rfl rfl (LO.assign rfl rfl) ?_
      refine RW.nil ?_
      by_cases he : gI b i = gI a i
      · have g3 : (gI b (i : Int) != gI a (i : Int)) = false := by simp [he]
        repeat (refine W.seq ?_)
        refine W.region 40 46 (by decide) rfl rfl ?_
        refine RW.opd rfl rfl (LO.move rfl rfl) ?_
        refine RW.opd rfl rfl (LO.move rfl rfl) ?_
        refine RW.opd rfl rfl (LO.indexAddr_isl rfl rfl rfl rfl rfl ty26 ty3 ?_) ?_; (· (first | omega | decide | assumption | fail | (simp; done) | (simp; omega)))
        refine RW.opd rfl rfl (LO.load_imm rfl rfl (ni_at1 (k := i) (by omega)) ty3 rfl) ?_
        refine RW.opd rfl rfl (LO.move rfl rfl) ?_
        refine RW.opd rfl rfl (LO.neq rfl rfl rfl) ?_
        refine RW.nil ?_
        repeat (refine W.seq ?_)
        refine W.cond_f rfl (by first | rfl | assumption) ?_
        refine W.skip ?_
        repeat (refine W.seq ?_)
        refine W.region 55 57 (by decide) rfl rfl ?_
        refine RW.opd rfl rfl (LO.add_in rfl rfl rfl ?_) ?_; (· (first | exact IntWalk.i64_in _ (by omega) | assumption))
        refine RW.opd rfl rfl (LO.move rfl rfl) ?_
        refine RW.nil ?_
        have hs2 : ∀ k : Nat, k < i + 1 → gI a k = gI b k := fun k h => by
          by_cases e : k = i
          · subst e; exact he.symm
          · exact hs k (by omega)
        refine WL.rename [] 0 (by decide) ?_ ?_ (ihA (i + 1) (show a.length - (i + 1) < a.length - i from by omega) (show (i + 1) ≤ a.length ∧ ∀ k : Nat, k < (i + 1) → gI a k = gI b k from ⟨by omega, hs2⟩))
        · (repeat' (first | exact all_mt | refine all_up ?_ ?_)) <;> first | exact .inl ⟨rfl, rfl⟩ | exact .inr ⟨rfl, fun _ h => by cases h⟩ | exact .inl ⟨rfl, by first | rfl | assumption | exact (bytesC_pure _)⟩
        · (repeat' (first | exact all_mt | refine all_up ?_ ?_)) <;> first | exact ⟨rfl, _, rfl, .inr ⟨rfl, rfl⟩⟩ | exact ⟨rfl, _, rfl, .inl rfl⟩ | exact ⟨rfl, _, rfl, .inr ⟨rfl, by first | rfl | assumption | exact (bytesC_pure _)⟩⟩
      · have g3 : (gI b (i : Int) != gI a (i : Int)) = true := by simpa using he
        repeat (refine W.seq ?_)
        refine W.region 40 46 (by decide) rfl rfl ?_
        refine RW.opd rfl rfl (LO.move rfl rfl) ?_
        refine RW.opd rfl rfl (LO.move rfl rfl) ?_
        refine RW.opd rfl rfl (LO.indexAddr_isl rfl rfl rfl rfl rfl ty26 ty3 ?_) ?_; (· (first | omega | decide | assumption | fail | (simp; done) | (simp; omega)))
        refine RW.opd rfl rfl (LO.load_imm rfl rfl (ni_at1 (k := i) (by omega)) ty3 rfl) ?_
        refine RW.opd rfl rfl (LO.move rfl rfl) ?_
        refine RW.opd rfl rfl (LO.neq rfl rfl rfl) ?_
        refine RW.nil ?_
        repeat (refine W.seq ?_)
        refine W.cond_t rfl (by first | rfl | assumption) ?_
        repeat (refine W.seq ?_)
        refine W.region 50 51 (by decide) rfl rfl ?_
        refine RW.opd rfl rfl (LO.assign rfl rfl) ?_
        refine RW.nil ?_
        repeat (refine W.seq ?_)
        refine W.ret ⟨.inl rfl, _, mt, RVs.cons (RV.tmp rfl) (RVs.nil), all_mt, ?_⟩
        exact ⟨by rw [decide_eq_false fun e => he (by rw [e])]; rfl, rfl⟩
    · have g2 : decide ((i : Int) < (a.length : Int)) = false := decide_eq_false (by omega)
      repeat (refine W.seq ?_)
      refine W.region 26 27 (by decide) rfl rfl ?_
      refine RW.opd rfl rfl (LO.lss rfl rfl rfl) ?_
      refine RW.nil ?_
      repeat (refine W.seq ?_)
      refine W.cond_f rfl (by first | rfl | assumption) ?_
      refine W.exit ?_
      obtain rfl : i = a.length := by omega
      have hab : a = b := by
        refine List.ext_getElem hl fun k h1 h2 => ?_
        have := hs k h1
        rwa [gI_at h1, gI_at h2] at this
      repeat (refine W.seq ?_)
      refine W.region 61 62 (by decide) rfl rfl ?_
      refine RW.opd rfl rfl (LO.assign rfl rfl) ?_
      refine RW.nil ?_
      repeat (refine W.seq ?_)
      refine W.ret ⟨.inl rfl, _, mt, RVs.cons (RV.tmp rfl) (RVs.nil), all_mt, ?_⟩
      exact ⟨by rw [decide_eq_true hab]; rfl, rfl⟩
  · have g1 : ((a.length : Int) != (b.length : Int)) = true := by simp; omega
    repeat (refine W.seq ?_)
    refine W.region 5 10 (by decide) rfl rfl ?_
    refine RW.opd rfl rfl (LO.move rfl rfl) ?_
    refine RW.opd rfl rfl (LO.len_isl rfl rfl rfl ty26) ?_
    refine RW.opd rfl rfl (LO.move rfl rfl) ?_
    refine RW.opd rfl rfl (LO.len_isl rfl rfl rfl ty26) ?_
    refine RW.opd rfl rfl (LO.neq rfl rfl rfl) ?_
    refine RW.nil ?_
    repeat (refine W.seq ?_)
    refine W.cond_t rfl (by first | rfl | assumption) ?_
    repeat (refine W.seq ?_)
    refine W.region 14 15 (by decide) rfl rfl ?_
    refine RW.opd rfl rfl (LO.assign rfl rfl) ?_
    refine RW.nil ?_
    repeat (refine W.seq ?_)
    refine W.ret ⟨.inl rfl, _, mt, RVs.cons (RV.tmp rfl) (RVs.nil), all_mt, ?_⟩
    exact ⟨by rw [decide_eq_false fun e => hl (by rw [e])]; rfl, rfl⟩

theorem awake14_any : AFn Try.prog 32 0 [] mt (.base (.bool true)) mt := by
  refine AFn.eq Try.func32 rfl rfl (Nat.le_of_ble_eq_true rfl) ?_
  have h1 := way_any fab2 fab2_s fab2_e 0 1 5
  have h2 := way_any fab2 fab2_s fab2_e 0 2 5
  rw [fab2_w1] at h1
  rw [fab2_w2] at h2
  have h3 := hash_any [1, 1, 0, 0, 0, 0] [0, 0, 0, 0, 0, 2] rfl rfl (by unfold IsBy; decide) (by unfold IsBy; decide)
  repeat (refine W.seq ?_)
  refine W.region 0 1 (by decide) rfl rfl ?_
  refine RW.opd rfl rfl (LO.assign rfl rfl) ?_
  refine RW.nil ?_
  repeat (refine W.seq ?_)
  refine W.regionD 5 12 (by decide) rfl mixed rfl ?_
  refine RW.opd rfl rfl (LO.build_st rfl ty54 (.cons rfl rfl rfl rfl (Sp.lit rfl) (.cons rfl rfl rfl rfl (Sp.lit rfl) (.cons rfl rfl rfl rfl (Sp.lit rfl) .nil)))) ?_
  refine RW.opd rfl rfl (LO.buildSlice rfl ty22 ty54 (by decide) (by decide) (.cons rfl rfl rfl rfl (Sp.lit rfl) .nil)) ?_
  refine RW.opd rfl rfl (LO.makeSlice rfl rfl rfl rfl rfl ty23 ty4 (by decide) ?_ ?_ ?_) ?_; (· (first | omega | decide | assumption | fail | (simp; done) | (simp; omega))); (· (first | omega | decide | assumption | fail | (simp; done) | (simp; omega))); (· (first | omega | decide | assumption | fail | (simp; done) | (simp; omega)))
  refine RW.opd rfl rfl (LO.makeSlice rfl rfl rfl rfl rfl ty23 ty4 (by decide) ?_ ?_ ?_) ?_; (· (first | omega | decide | assumption | fail | (simp; done) | (simp; omega))); (· (first | omega | decide | assumption | fail | (simp; done) | (simp; omega))); (· (first | omega | decide | assumption | fail | (simp; done) | (simp; omega)))
  refine RW.opd rfl rfl (LO.build_st rfl ty25 (.cons rfl rfl rfl rfl (Sp.lit rfl) (.cons rfl rfl rfl rfl (Sp.lit rfl) (.cons rfl rfl rfl rfl (Sp.lit rfl) (.cons rfl rfl rfl rfl (Sp.lit rfl) .nil))))) ?_
  refine RW.opd rfl rfl (LO.alloc rfl ty25) ?_
  refine RW.opn rfl rfl (LO.store rfl rfl rfl rfl rfl ty25 rfl (by decide) (Sp.lit rfl)) ?_
  refine RW.nil ⟨by kernel_rfl, ?_⟩
  refine W.frzc (q := 10) (j := 1) (r := 6) rfl rfl (by decide) rfl (Tk.lit rfl) rfl (Sp.lit rfl) ?_
  refine W.frzc (q := 10) (j := 2) (r := 7) rfl rfl (by decide) rfl (Tk.lit rfl) rfl (Sp.lit rfl) ?_
  refine W.frzc (q := 10) (j := 3) (r := 8) rfl rfl (by decide) rfl (Tk.lit rfl) rfl (Sp.lit rfl) ?_
  repeat (refine W.seq ?_)
  refine W.region 16 23 (by decide) rfl rfl ?_
  refine RW.opd rfl rfl (LO.load_agg rfl rfl rfl ty25 rfl (Tk.lit rfl)) ?_
  refine RW.opd rfl rfl (LO.call0 (fr := []) rfl rfl (h1) fok26 (.cons rfl (.pure rfl) (.cons rfl (.pure rfl) (.cons rfl (.pure rfl) (.cons rfl (.pure rfl) .nil)))) rfl) ?_
  refine RW.opd rfl rfl (LO.move rfl rfl) ?_
  refine RW.opd rfl rfl (LO.extract rfl rfl rfl) ?_
  refine RW.opd rfl rfl (LO.extract rfl rfl rfl) ?_
  refine RW.opd rfl rfl (LO.assign rfl rfl) ?_
  refine RW.opd rfl rfl (LO.assign rfl rfl) ?_
  refine RW.nil ?_
  repeat (refine W.seq ?_)
  refine W.region 27 34 (by decide) rfl rfl ?_
  refine RW.opd rfl rfl (LO.load_agg rfl rfl rfl ty25 rfl (Tk.lit rfl)) ?_
  refine RW.opd rfl rfl (LO.call0 (fr := []) rfl rfl (h2) fok26 (.cons rfl (.pure rfl) (.cons rfl (.pure rfl) (.cons rfl (.pure rfl) (.cons rfl (.pure rfl) .nil)))) rfl) ?_
  refine RW.opd rfl rfl (LO.move rfl rfl) ?_
  refine RW.opd rfl rfl (LO.extract rfl rfl rfl) ?_
  refine RW.opd rfl rfl (LO.extract rfl rfl rfl) ?_
  refine RW.opd rfl rfl (LO.assign rfl rfl) ?_
  refine RW.opd rfl rfl (LO.assign rfl rfl) ?_
  refine RW.nil ?_
  repeat (refine W.seq ?_)
  refine W.region 38 61 (by decide) rfl rfl ?_
  refine RW.opd rfl rfl (LO.move rfl rfl) ?_
  refine RW.opd rfl rfl (LO.move rfl rfl) ?_
  refine RW.gd rfl rfl rfl ?_ rfl (LO.move rfl rfl) ?_; (· (first | rfl | assumption))
  refine RW.gd rfl rfl rfl ?_ rfl (LO.len_isl rfl rfl rfl ty26) ?_; (· (first | rfl | assumption))
  refine RW.gd rfl rfl rfl ?_ rfl (LO.eql rfl rfl rfl) ?_; (· (first | rfl | assumption))
  refine RW.opd rfl rfl (LO.pick_t rfl rfl ?_ rfl) ?_; (· (first | rfl | assumption))
  refine RW.opd rfl rfl (LO.move rfl rfl) ?_
  refine RW.gd rfl rfl rfl ?_ rfl (LO.move rfl rfl) ?_; (· (first | rfl | assumption))
  refine RW.gd rfl rfl rfl ?_ rfl (LO.indexAddr_isl rfl rfl rfl rfl rfl ty26 ty3 ?_) ?_; (· (first | rfl | assumption)); (· (first | omega | decide | assumption | fail | (simp; done) | (simp; omega)))
  refine RW.gd rfl rfl rfl ?_ rfl (LO.load_imm rfl rfl rfl ty3 rfl) ?_; (· (first | rfl | assumption))
  refine RW.gd rfl rfl rfl ?_ rfl (LO.eql rfl rfl rfl) ?_; (· (first | rfl | assumption))
  refine RW.opd rfl rfl (LO.pick_t rfl rfl ?_ rfl) ?_; (· (first | rfl | assumption))
  refine RW.opd rfl rfl (LO.move rfl rfl) ?_
  refine RW.gd rfl rfl rfl ?_ rfl (LO.move rfl rfl) ?_; (· (first | rfl | assumption))
  refine RW.gd rfl rfl rfl ?_ rfl (LO.not rfl rfl) ?_; (· (first | rfl | assumption))
  refine RW.opd rfl rfl (LO.pick_t rfl rfl ?_ rfl) ?_; (· (first | rfl | assumption))
  refine RW.opd rfl rfl (LO.move rfl rfl) ?_
  refine RW.gd rfl rfl rfl ?_ rfl (LO.build_ar rfl ty42 ty5 (.cons rfl rfl rfl rfl (Sp.lit rfl) (.cons rfl rfl rfl rfl (Sp.lit rfl) .nil))) ?_; (· (first | rfl | assumption))
  refine RW.gd rfl rfl rfl ?_ rfl (LO.build_ar rfl ty42 ty5 (.cons rfl rfl rfl rfl (Sp.lit rfl) (.cons rfl rfl rfl rfl (Sp.lit rfl) (.cons rfl rfl rfl rfl (Sp.lit rfl) (.cons rfl rfl rfl rfl (Sp.lit rfl) (.cons rfl rfl rfl rfl (Sp.lit rfl) (.cons rfl rfl rfl rfl (Sp.lit rfl) .nil))))))) ?_; (· (first | rfl | assumption))
  refine RW.gd rfl rfl rfl ?_ rfl (LO.call0 (fr := []) rfl rfl (h3) fok29 (.cons rfl (.pure rfl) (.cons rfl (.pure rfl) .nil)) rfl) ?_; (· (first | rfl | assumption))
  refine RW.gd rfl rfl rfl ?_ rfl (LO.eql rfl rfl rfl) ?_; (· (first | rfl | assumption))
  refine RW.opd rfl rfl (LO.pick_t rfl rfl ?_ rfl) ?_; (· (first | rfl | assumption))
  refine RW.opd rfl rfl (LO.assign rfl rfl) ?_
  refine RW.nil ?_
  repeat (refine W.seq ?_)
  refine W.ret ⟨.inl rfl, _, mt, RVs.cons (RV.tmp rfl) (RVs.nil), all_mt, ?_⟩
  exact ⟨rfl, rfl⟩
theorem FabOK.ends {f : Fab} (h : FabOK f) : EndsIn f := fun i l hl => by
  obtain ⟨h1, h2, h3, h4, _⟩ := h.links l (List.mem_of_getElem? hl)
  have := h.dead
  exact ⟨h1, by omega, h3, by omega⟩
theorem wayL_len (f : Fab) (d : List Int) (h : Int) (m : Nat) (at_ : Int) : (wayL f d h m at_).length = m := by
  induction m generalizing at_ with
  | zero => rfl
  | succ m ih => show (_ :: wayL f d h m _).length = m + 1; rw [List.length_cons, ih]
theorem wayF_len {f : Fab} (hf : FabS f) (frm to h : Int) : ((wayF f frm to h).getD []).length ≤ 8 := by
  unfold wayF
  split
  · rename_i h0
    rw [Option.getD_some, wayL_len]
    obtain ⟨h1, h2⟩ := gI_range h0
    rw [dist_len] at h2
    have := dist_lt f to frm (by omega)
    have := hf.n8
    omega
  · simp
def trsC (l : List (Int × Int × Int)) : List AV := l.flatMap fun p => [.base (.int .i64 p.1), .base (.int .i64 p.2.1), .base (.int .i64 p.2.2)]
theorem trs_tk {l : List (Int × Int × Int)} {k : Nat} (h : k < l.length) : Tk (trsC l) (0 + k * 3) 3 [.base (.int .i64 l[k].1), .base (.int .i64 l[k].2.1), .base (.int .i64 l[k].2.2)] := by
  have key : (trsC l)[k * 3]? = some (.base (.int .i64 l[k].1)) ∧ (trsC l)[k * 3 + 1]? = some (.base (.int .i64 l[k].2.1)) ∧ (trsC l)[k * 3 + 2]? = some (.base (.int .i64 l[k].2.2)) := by
    induction l generalizing k with
    | nil => simp at h
    | cons x l ih =>
      cases k with
      | zero => exact ⟨rfl, rfl, rfl⟩
      | succ k =>
        have := ih (k := k) (by simpa using h)
        have e : trsC (x :: l) = [.base (.int .i64 x.1), .base (.int .i64 x.2.1), .base (.int .i64 x.2.2)] ++ trsC l := rfl
        rw [e, show (k + 1) * 3 = 3 + k * 3 from by omega, show 3 + k * 3 + 1 = 3 + (k * 3 + 1) from by omega, show 3 + k * 3 + 2 = 3 + (k * 3 + 2) from by omega]
        rw [List.getElem?_append_right (by simp), List.getElem?_append_right (by simp), List.getElem?_append_right (by simp)]
        simpa using this
  refine ⟨rfl, fun j c hj => ?_⟩
  rw [Nat.zero_add]
  match j with
  | 0 => simp at hj; subst hj; exact key.1
  | 1 => simp at hj; subst hj; exact key.2.1
  | 2 => simp at hj; subst hj; exact key.2.2
  | j + 3 => simp at hj
theorem trsC_pure (l : List (Int × Int × Int)) : (trsC l).all AV.pure1 = true := by
  induction l with
  | nil => rfl
  | cons x l ih => rw [show trsC (x :: l) = [.base (.int .i64 x.1), .base (.int .i64 x.2.1), .base (.int .i64 x.2.2)] ++ trsC l from rfl, List.all_append, ih]; rfl
theorem by_tk6 {l : List Int} (h : l.length = 6) : Tk (bytesC l) 0 6 (bytesC l) := bytes_tk h
theorem ways14_law (a b l : List Int) (frm to hash : Int) (ha : a.length = 6) (hb : b.length = 6) (hba : IsBy a) (hbb : IsBy b) (hl : l.length ≤ 9223372036854775807) : AFn Try.prog 5 0 [.agg (bytesC a), .agg (bytesC b), .isl (intsC l) l.length, .base (.int .i64 frm), .base (.int .i64 to), .base (.int .i64 hash)] mt (.base (.bool true)) mt := by
  refine AFn.eq Try.func5 rfl rfl (Nat.le_of_ble_eq_true rfl) ?_
  have hnew := new_any l
  obtain ⟨v, H', hcall, f, a1, ⟨hf, hsw⟩, rfl, rfl⟩ := fabric_any l 0 2 (by decide) (by decide) hl
  have hw1 := way_any f hf.fs hf.ends
  have hw2 := wayX_any f hf.fs hf.ends
  have hs7 := hf.sw7
  have hh1 := hash_any a b ha hb hba hbb
  have hh2 := hashX_any a b ha hb hba hbb
  have hh3 := hash_any (macF frm) (macF to) rfl rfl (macF_by _) (macF_by _)
  have hh4 := hashX_any (macF frm) (macF to) rfl rfl (macF_by _) (macF_by _)
  have hmf := mac_any frm
  have hmt := mac_any to
  have hq1 : (hashF (a ++ b) == hashF (a ++ b)) = true := by simp
  have hq2 : (hashF (macF frm ++ macF to) == hashF (macF frm ++ macF to)) = true := by simp
  have hsl : ∀ w : List Int, w.length ≤ 8 → AFn Try.prog 28 0 [.isl (intsC w) w.length, .isl (intsC w) w.length] mt (.base (.bool true)) mt := fun w hw => by
    have := ints14_any w w (by omega)
    rwa [decide_eq_true rfl] at this
  repeat (refine W.seq ?_)
  refine W.region 0 3 (by decide) rfl rfl ?_
  refine RW.opd rfl rfl (LO.box rfl rfl rfl) ?_
  refine RW.opd rfl rfl (LO.box rfl rfl rfl) ?_
  refine RW.opd rfl rfl (LO.assign rfl rfl) ?_
  refine RW.nil ?_
  repeat (refine W.seq ?_)
  refine W.region 7 12 (by decide) rfl rfl ?_
  refine RW.opd rfl rfl (LO.move rfl rfl) ?_
  refine RW.opd rfl rfl (LO.callN (fr := []) rfl rfl (hnew) fok16 (.cons rfl (.pure rfl) .nil) rfl (by decide)) ?_
  refine RW.opd rfl rfl (LO.call1 (fr := []) rfl rfl (hcall) fok17 (.own rfl rfl (.cons rfl (.pure rfl) .nil)) rfl rfl rfl (List.cons_ne_nil _ _) (by decide) rfl) ?_
  refine RW.opd rfl rfl (LO.alloc rfl ty25) ?_
  refine RW.opn rfl rfl (LO.store rfl rfl rfl rfl rfl ty25 rfl (by decide) (Sp.lit rfl)) ?_
  refine RW.nil ?_
  repeat (refine W.seq ?_)
  refine W.regionD 16 44 (by decide) rfl mixed rfl ?_
  refine RW.opd rfl rfl (LO.move rfl rfl) ?_
  refine RW.opd rfl rfl (LO.move rfl rfl) ?_
  refine RW.opd rfl rfl (LO.move rfl rfl) ?_
  refine RW.opd rfl rfl (LO.call0 (fr := []) rfl rfl (mod_any _ 1099511627776 (by decide) (by decide)) fok21 (.cons rfl (.pure rfl) (.cons rfl (.pure rfl) .nil)) rfl) ?_
  refine RW.opd rfl rfl (LO.build_ar rfl ty43 ty3 (.cons rfl rfl rfl rfl (Sp.lit rfl) (.cons rfl rfl rfl rfl (Sp.lit rfl) (.cons rfl rfl rfl rfl (Sp.lit rfl) .nil)))) ?_
  refine RW.opd rfl rfl (LO.move rfl rfl) ?_
  refine RW.opd rfl rfl (LO.fieldAddr rfl rfl ty25 rfl (by decide)) ?_
  refine RW.opd rfl rfl (LO.load rfl rfl rfl rfl ty3 rfl) ?_
  refine RW.opd rfl rfl (LO.call0 (fr := []) rfl rfl (mod_any _ f.sw hf.sw1 (by omega)) fok21 (.cons rfl (.pure rfl) (.cons rfl (.pure rfl) .nil)) rfl) ?_
  refine RW.opd rfl rfl (LO.move rfl rfl) ?_
  refine RW.opd rfl rfl (LO.fieldAddr rfl rfl ty25 rfl (by decide)) ?_
  refine RW.opd rfl rfl (LO.load rfl rfl rfl rfl ty3 rfl) ?_
  refine RW.opd rfl rfl (LO.call0 (fr := []) rfl rfl (mod_any _ f.sw hf.sw1 (by omega)) fok21 (.cons rfl (.pure rfl) (.cons rfl (.pure rfl) .nil)) rfl) ?_
  refine RW.opd rfl rfl (LO.move rfl rfl) ?_
  refine RW.opd rfl rfl (LO.call0 (fr := []) rfl rfl (mod_any _ 70000 (by decide) (by decide)) fok21 (.cons rfl (.pure rfl) (.cons rfl (.pure rfl) .nil)) rfl) ?_
  refine RW.opd rfl rfl (LO.build_ar rfl ty43 ty3 (.cons rfl rfl rfl rfl (Sp.lit rfl) (.cons rfl rfl rfl rfl (Sp.lit rfl) (.cons rfl rfl rfl rfl (Sp.lit rfl) .nil)))) ?_
  refine RW.opd rfl rfl (LO.move rfl rfl) ?_
  refine RW.opd rfl rfl (LO.call0 (fr := []) rfl rfl (mod_any _ 10 (by decide) (by decide)) fok21 (.cons rfl (.pure rfl) (.cons rfl (.pure rfl) .nil)) rfl) ?_
  refine RW.opd rfl rfl (LO.sub_in rfl rfl rfl ?_) ?_; (· (first | exact IntWalk.i64_in _ (by omega) | assumption))
  refine RW.opd rfl rfl (LO.move rfl rfl) ?_
  refine RW.opd rfl rfl (LO.call0 (fr := []) rfl rfl (mod_any _ 10 (by decide) (by decide)) fok21 (.cons rfl (.pure rfl) (.cons rfl (.pure rfl) .nil)) rfl) ?_
  refine RW.opd rfl rfl (LO.sub_in rfl rfl rfl ?_) ?_; (· (first | exact IntWalk.i64_in _ (by omega) | assumption))
  refine RW.opd rfl rfl (LO.move rfl rfl) ?_
  refine RW.opd rfl rfl (LO.call0 (fr := []) rfl rfl (mod_any _ 9 (by decide) (by decide)) fok21 (.cons rfl (.pure rfl) (.cons rfl (.pure rfl) .nil)) rfl) ?_
  refine RW.opd rfl rfl (LO.build_ar rfl ty43 ty3 (.cons rfl rfl rfl rfl (Sp.lit rfl) (.cons rfl rfl rfl rfl (Sp.lit rfl) (.cons rfl rfl rfl rfl (Sp.lit rfl) .nil)))) ?_
  refine RW.opd rfl rfl (LO.buildSlice rfl ty44 ty43 (by decide) (by decide) (.cons rfl rfl rfl rfl (Sp.lit rfl) (.cons rfl rfl rfl rfl (Sp.lit rfl) (.cons rfl rfl rfl rfl (Sp.lit rfl) .nil)))) ?_
  refine RW.opd rfl rfl (LO.len rfl rfl ty44) ?_
  refine RW.opd rfl rfl (LO.move rfl rfl) ?_
  refine RW.nil ⟨by kernel_rfl, ?_⟩
  repeat (refine W.seq ?_)
  refine W.block ?_
  refine W.loop_keep (α := Nat) (fun x => 3 - x) 4 (fun x => [(6, .own 0 0), (7, .own 1 0), (13, .own 2 0), (48, .osl 3 0 3 3), (50, .base (.int .i64 (x : Int)))]) (fun x => up (up (up (up mt 0 (some (bytesC a))) 1 (some (bytesC b))) 2 (some (fabC f))) 3 (some (trsC [(frm, to, hash % 1099511627776), (frm % f.sw, to % f.sw, hash % 70000), (frm % 10 - 1, to % 10 - 1, hash % 9)]))) (fun x => x ≤ 3) 0 [(0, 0), (1, 1), (2, 10), (3, 41)] (.cons (t := 3) rfl (by first | exact .inl rfl | exact .inr ⟨rfl, fun _ h => by cases h⟩ | (exact .inl (by assumption)) | exact .inl (intsC_pure _) | exact .inl (bytesC_pure _) | exact .inl (trsC_pure _)) (.cons (t := 4) rfl (by first | exact .inl rfl | exact .inr ⟨rfl, fun _ h => by cases h⟩ | (exact .inl (by assumption)) | exact .inl (intsC_pure _) | exact .inl (bytesC_pure _) | exact .inl (trsC_pure _)) (.cons (t := 49) rfl (by first | exact .inl rfl | exact .inr ⟨rfl, fun _ h => by cases h⟩ | (exact .inl (by assumption)) | exact .inl (intsC_pure _) | exact .inl (bytesC_pure _) | exact .inl (trsC_pure _)) .nil))) (show 0 ≤ 3 from Nat.zero_le _) (by decide) ?_ ?_ ?_
  · (repeat' (first | exact LookR.nil | refine LookR.cons ?_ ?_)) <;> first | exact .inl ⟨rfl, rfl⟩ | exact .inr ⟨rfl, fun _ h => by cases h⟩ | exact .inl ⟨rfl, by first | rfl | assumption | exact (intsC_pure _) | exact (bytesC_pure _) | exact (trsC_pure _)⟩
  · (repeat' (first | exact all_mt | refine all_up ?_ ?_)) <;> first | exact ⟨rfl, _, rfl, .inr ⟨rfl, rfl⟩⟩ | exact ⟨rfl, _, rfl, .inl rfl⟩ | exact ⟨rfl, _, rfl, .inr ⟨rfl, by first | rfl | assumption | exact (intsC_pure _) | exact (bytesC_pure _) | exact (trsC_pure _)⟩⟩
  rintro i hIA ihA
  try (dsimp only at hIA)
  try dsimp only [baseT, List.cons_append, List.nil_append]
  generalize hps : [(frm, to, hash % 1099511627776), (frm % f.sw, to % f.sw, hash % 70000), (frm % 10 - 1, to % 10 - 1, hash % 9)] = ps at ihA ⊢
  have hpl : ps.length = 3 := by rw [← hps]; rfl
  by_cases hc : i < 3
  · have g1 : decide ((i : Int) < 3) = true := decide_eq_true (by omega)
    repeat (refine W.seq ?_)
    refine W.region 48 49 (by decide) rfl rfl ?_
    refine RW.opd rfl rfl (LO.lss rfl rfl rfl) ?_
    refine RW.nil ?_
    repeat (refine W.seq ?_)
    refine W.cond_t rfl (by first | rfl | assumption) ?_
    refine W.skip ?_
    repeat (refine W.seq ?_)
    refine W.block ?_
    repeat (refine W.seq ?_)
    refine W.region 53 57 (by decide) rfl rfl ?_
    refine RW.opd rfl rfl (LO.indexAddr rfl rfl rfl rfl ty44 ty43 ?_) ?_; (· (first | omega | decide | assumption | fail | (simp; done) | (simp; omega)))
    refine RW.opd rfl rfl (LO.load_agg rfl rfl rfl ty43 rfl (trs_tk (by omega))) ?_
    refine RW.opd rfl rfl (LO.alloc rfl ty43) ?_
    refine RW.opn rfl rfl (LO.store rfl rfl rfl rfl rfl ty43 rfl (by decide) (Sp.lit rfl)) ?_
    refine RW.nil ?_
    have hwl := wayF_len hf.fs ps[i].1 ps[i].2.1 ps[i].2.2
    have hsl2 := hsl _ hwl
    repeat (refine W.seq ?_)
    refine W.region 61 74 (by decide) rfl rfl ?_
    refine RW.opd rfl rfl (LO.load_agg rfl rfl rfl ty25 rfl (Tk.lit rfl)) ?_
    refine RW.opd rfl rfl (LO.indexAddr_ar rfl rfl rfl rfl ty43 ty3 ?_) ?_; (· (first | omega | decide | assumption | fail | (simp; done) | (simp; omega)))
    refine RW.opd rfl rfl (LO.load rfl rfl rfl rfl ty3 rfl) ?_
    refine RW.opd rfl rfl (LO.indexAddr_ar rfl rfl rfl rfl ty43 ty3 ?_) ?_; (· (first | omega | decide | assumption | fail | (simp; done) | (simp; omega)))
    refine RW.opd rfl rfl (LO.load rfl rfl rfl rfl ty3 rfl) ?_
    refine RW.opd rfl rfl (LO.indexAddr_ar rfl rfl rfl rfl ty43 ty3 ?_) ?_; (· (first | omega | decide | assumption | fail | (simp; done) | (simp; omega)))
    refine RW.opd rfl rfl (LO.load rfl rfl rfl rfl ty3 rfl) ?_
    refine RW.opd rfl rfl (LO.call0 (fr := []) rfl rfl (hw1 _ _ _) fok26 (.cons rfl (.pure rfl) (.cons rfl (.pure rfl) (.cons rfl (.pure rfl) (.cons rfl (.pure rfl) .nil)))) rfl) ?_
    refine RW.opd rfl rfl (LO.move rfl rfl) ?_
    refine RW.opd rfl rfl (LO.extract rfl rfl rfl) ?_
    refine RW.opd rfl rfl (LO.extract rfl rfl rfl) ?_
    refine RW.opd rfl rfl (LO.assign rfl rfl) ?_
    refine RW.opd rfl rfl (LO.assign rfl rfl) ?_
    refine RW.nil ?_
    repeat (refine W.seq ?_)
    refine W.region 78 91 (by decide) rfl rfl ?_
    refine RW.opd rfl rfl (LO.load_agg rfl rfl rfl ty25 rfl (Tk.lit rfl)) ?_
    refine RW.opd rfl rfl (LO.indexAddr_ar rfl rfl rfl rfl ty43 ty3 ?_) ?_; (· (first | omega | decide | assumption | fail | (simp; done) | (simp; omega)))
    refine RW.opd rfl rfl (LO.load rfl rfl rfl rfl ty3 rfl) ?_
    refine RW.opd rfl rfl (LO.indexAddr_ar rfl rfl rfl rfl ty43 ty3 ?_) ?_; (· (first | omega | decide | assumption | fail | (simp; done) | (simp; omega)))
    refine RW.opd rfl rfl (LO.load rfl rfl rfl rfl ty3 rfl) ?_
    refine RW.opd rfl rfl (LO.indexAddr_ar rfl rfl rfl rfl ty43 ty3 ?_) ?_; (· (first | omega | decide | assumption | fail | (simp; done) | (simp; omega)))
    refine RW.opd rfl rfl (LO.load rfl rfl rfl rfl ty3 rfl) ?_
    refine RW.opd rfl rfl (LO.call0 (fr := []) rfl rfl (hw2 _ _ _) fok27 (.cons rfl (.pure rfl) (.cons rfl (.pure rfl) (.cons rfl (.pure rfl) (.cons rfl (.pure rfl) .nil)))) rfl) ?_
    refine RW.opd rfl rfl (LO.move rfl rfl) ?_
    refine RW.opd rfl rfl (LO.extract rfl rfl rfl) ?_
    refine RW.opd rfl rfl (LO.extract rfl rfl rfl) ?_
    refine RW.opd rfl rfl (LO.assign rfl rfl) ?_
    refine RW.opd rfl rfl (LO.assign rfl rfl) ?_
    refine RW.nil ?_
    have hne : ((wayF f ps[i].1 ps[i].2.1 ps[i].2.2).isSome != (wayF f ps[i].1 ps[i].2.1 ps[i].2.2).isSome) = false := by simp
    repeat (refine W.seq ?_)
    refine W.region 95 104 (by decide) rfl rfl ?_
    refine RW.opd rfl rfl (LO.move rfl rfl) ?_
    refine RW.opd rfl rfl (LO.move rfl rfl) ?_
    refine RW.opd rfl rfl (LO.call0 (fr := []) rfl rfl (hsl2) fok28 (.cons rfl (.pure rfl) (.cons rfl (.pure rfl) .nil)) rfl) ?_
    refine RW.opd rfl rfl (LO.not rfl rfl) ?_
    refine RW.opd rfl rfl (LO.move rfl rfl) ?_
    refine RW.gd rfl rfl rfl ?_ rfl (LO.move rfl rfl) ?_; (· (first | rfl | assumption))
    refine RW.gd rfl rfl rfl ?_ rfl (LO.move rfl rfl) ?_; (· (first | rfl | assumption))
    refine RW.gd rfl rfl rfl ?_ rfl (LO.neq_bool rfl rfl rfl ty4) ?_; (· (first | rfl | assumption))
    refine RW.opd rfl rfl (LO.pick_f rfl rfl ?_ rfl) ?_; (· (first | rfl | assumption))
    refine RW.nil ?_
    repeat (refine W.seq ?_)
    refine W.cond_f rfl (by first | rfl | assumption) ?_
    refine W.skip ?_
    repeat (refine W.seq ?_)
    refine W.region 113 115 (by decide) rfl rfl ?_
    refine RW.opd rfl rfl (LO.add_in rfl rfl rfl ?_) ?_; (· (first | exact IntWalk.i64_in _ (by omega) | assumption))
    refine RW.opd rfl rfl (LO.move rfl rfl) ?_
    refine RW.nil ?_
    refine WL.renameL [(0, 0), (1, 1), (2, 2), (3, 3)] 4 (by decide) ?_ ?_ (ihA (i + 1) (show 3 - (i + 1) < 3 - i from by omega) (show (i + 1) ≤ 3 from by omega))
    · (repeat' (first | exact LookR.nil | refine LookR.cons ?_ ?_)) <;> first | exact .inl ⟨rfl, rfl⟩ | exact .inr ⟨rfl, fun _ h => by cases h⟩ | exact .inl ⟨rfl, by first | rfl | assumption | exact (intsC_pure _) | exact (bytesC_pure _) | exact (trsC_pure _)⟩
    · (repeat' (first | exact all_mt | refine all_up ?_ ?_)) <;> first | exact ⟨rfl, _, rfl, .inr ⟨rfl, rfl⟩⟩ | exact ⟨rfl, _, rfl, .inl rfl⟩ | exact ⟨rfl, _, rfl, .inr ⟨rfl, by first | rfl | assumption | exact (intsC_pure _) | exact (bytesC_pure _) | exact (trsC_pure _)⟩⟩
  · have g1 : decide ((i : Int) < 3) = false := decide_eq_false (by omega)
    repeat (refine W.seq ?_)
    refine W.region 48 49 (by decide) rfl rfl ?_
    refine RW.opd rfl rfl (LO.lss rfl rfl rfl) ?_
    refine RW.nil ?_
    repeat (refine W.seq ?_)
    refine W.cond_f rfl (by first | rfl | assumption) ?_
    refine W.exit ?_
    repeat (refine W.seq ?_)
    refine W.regionD 119 143 (by decide) rfl mixed rfl ?_
    refine RW.opd rfl rfl (LO.load_agg rfl rfl rfl ty42 rfl (by_tk6 ha)) ?_
    refine RW.opd rfl rfl (LO.load_agg rfl rfl rfl ty42 rfl (by_tk6 hb)) ?_
    refine RW.opd rfl rfl (LO.call0 (fr := []) rfl rfl (hh1) fok29 (.cons rfl (.pure (bytesC_pure _)) (.cons rfl (.pure (bytesC_pure _)) .nil)) rfl) ?_
    refine RW.opd rfl rfl (LO.load_agg rfl rfl rfl ty42 rfl (by_tk6 ha)) ?_
    refine RW.opd rfl rfl (LO.load_agg rfl rfl rfl ty42 rfl (by_tk6 hb)) ?_
    refine RW.opd rfl rfl (LO.call0 (fr := []) rfl rfl (hh2) fok30 (.cons rfl (.pure (bytesC_pure _)) (.cons rfl (.pure (bytesC_pure _)) .nil)) rfl) ?_
    refine RW.opd rfl rfl (LO.eql rfl rfl rfl) ?_
    refine RW.opd rfl rfl (LO.move rfl rfl) ?_
    refine RW.gd rfl rfl rfl ?_ rfl (LO.move rfl rfl) ?_; (· (first | rfl | assumption))
    refine RW.gd rfl rfl rfl ?_ rfl (LO.call0 (fr := []) rfl rfl (hmf) fok31 (.cons rfl (.pure rfl) .nil) rfl) ?_; (· (first | rfl | assumption))
    refine RW.gd rfl rfl rfl ?_ rfl (LO.move rfl rfl) ?_; (· (first | rfl | assumption))
    refine RW.gd rfl rfl rfl ?_ rfl (LO.call0 (fr := []) rfl rfl (hmt) fok31 (.cons rfl (.pure rfl) .nil) rfl) ?_; (· (first | rfl | assumption))
    refine RW.gd rfl rfl rfl ?_ rfl (LO.call0 (fr := []) rfl rfl (hh3) fok29 (.cons rfl (.pure rfl) (.cons rfl (.pure rfl) .nil)) rfl) ?_; (· (first | rfl | assumption))
    refine RW.gd rfl rfl rfl ?_ rfl (LO.move rfl rfl) ?_; (· (first | rfl | assumption))
    refine RW.gd rfl rfl rfl ?_ rfl (LO.call0 (fr := []) rfl rfl (hmf) fok31 (.cons rfl (.pure rfl) .nil) rfl) ?_; (· (first | rfl | assumption))
    refine RW.gd rfl rfl rfl ?_ rfl (LO.move rfl rfl) ?_; (· (first | rfl | assumption))
    refine RW.gd rfl rfl rfl ?_ rfl (LO.call0 (fr := []) rfl rfl (hmt) fok31 (.cons rfl (.pure rfl) .nil) rfl) ?_; (· (first | rfl | assumption))
    refine RW.gd rfl rfl rfl ?_ rfl (LO.call0 (fr := []) rfl rfl (hh4) fok30 (.cons rfl (.pure rfl) (.cons rfl (.pure rfl) .nil)) rfl) ?_; (· (first | rfl | assumption))
    refine RW.gd rfl rfl rfl ?_ rfl (LO.eql rfl rfl rfl) ?_; (· (first | rfl | assumption))
    refine RW.opd rfl rfl (LO.pick_t rfl rfl ?_ rfl) ?_; (· (first | rfl | assumption))
    refine RW.opd rfl rfl (LO.move rfl rfl) ?_
    refine RW.gd rfl rfl rfl ?_ rfl (LO.call0 (fr := []) rfl rfl (awake14_any) fok32 .nil rfl) ?_; (· (first | rfl | assumption))
    refine RW.opd rfl rfl (LO.pick_t rfl rfl ?_ rfl) ?_; (· (first | rfl | assumption))
    refine RW.opd rfl rfl (LO.assign rfl rfl) ?_
    refine RW.nil ⟨by kernel_rfl, ?_⟩
    repeat (refine W.seq ?_)
    refine W.ret ⟨.inl rfl, _, mt, RVs.cons (RV.tmp rfl) (RVs.nil), all_mt, ?_⟩
    exact ⟨rfl, rfl⟩
end Go.Proofs.Ythbdngfnbpkefaa
