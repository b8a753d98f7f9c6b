/-
  The example of the chapter.
-/
import Derived.Test.YtoijkcnefnmbjaaQp
namespace Go.Proofs.Ytoijkcnefnmbjaa
open Go.RowKit
def aA : Ad := ⟨true, 18338657682652659712, 1⟩
def nA : Nb := ⟨135, 0, aA, false, zMac⟩
theorem aA_ok : GoodA aA := ⟨⟨by decide, by decide⟩, ⟨by decide, by decide⟩⟩
theorem nA_ok : GoodN nA := ⟨⟨rfl, zMac_isB⟩, aA_ok.1, aA_ok.2⟩
theorem nA_val : validN nA = true := by decide
theorem encV_ok {n : Nb} {s d : Ad} (h : okN n s d = true) : encV n s d = .tup [.agg (pkC (encN n s d)), .base (.int .i64 0)] := by unfold encV; rw [h]; rfl
theorem encV_bad {n : Nb} {s d : Ad} (h : okN n s d = false) : encV n s d = .tup [.agg (pkC zPk), .base (.int .i64 1)] := by unfold encV; rw [h]; rfl
theorem okN_parts {n : Nb} {s d : Ad} (h : okN n s d = true) : validN n = true ∧ s.v6 = true ∧ d.v6 = true := by
  unfold okN at h
  simpa using h
theorem pkC_pure (p : Pk) : (pkC p).all AV.pure1 = true := by
  unfold pkC adC
  rfl
theorem pk_pure (p : Pk) (e : Int) : AV.pure (.tup [.agg (pkC p), .base (.int .i64 e)]) = true := by
  show (AV.pure2 (.agg (pkC p)) && true) = true
  rw [Bool.and_true]; exact pkC_pure p
theorem nbt_pure (n : Nb) (e : Int) : AV.pure (.tup [.agg (nbC n), .base (.int .i64 e)]) = true := by
  show (AV.pure2 (.agg (nbC n)) && true) = true
  rw [Bool.and_true]; exact nbC_pure n
theorem pk_tk (p : Pk) : Tk (pkC p) 0 9 (pkC p) := Tk.all (pkC p)
theorem awake_any : AFn Try.prog 28 0 [] mt (.base (.bool true)) mt := by
  refine AFn.eq Try.func28 rfl rfl (Nat.le_of_ble_eq_true rfl) ?_
  have he := enc_any nA aA aA rfl zMac_isB aA_ok.1 aA_ok.2 aA_ok.1 aA_ok.2 aA_ok.1 aA_ok.2
  rw [encV_ok (by decide)] at he
  have hd := dec_any (encN nA aA aA) (enc_isB nA_ok _ _) aA_ok.1 aA_ok.2 aA_ok.1 aA_ok.2
  have hdv : decV (encN nA aA aA) = .tup [.agg (nbC nA), .base (.int .i64 0)] := by
    unfold decV
    rw [dec_enc nA_val nA_ok rfl rfl]
    rfl
  rw [hdv] at hd
  have hl : (encN nA aA aA).bs.length = 24 := by
    show (sumL2 _ (encL nA)).length = 24
    rw [sumL2_len]; decide
  obtain ⟨P, hP⟩ : ∃ P, encN nA aA aA = P := ⟨_, rfl⟩
  rw [hP] at he hd hl
  have hpp := pk_pure P 0
  have hnn : AV.pure (.tup [.agg (nbC nA), .base (.int .i64 0)]) = true := rfl
  have heq : eqA aA aA = true := by decide
  repeat (refine W.seq ?_)
  refine W.region 0 1 (by decide) rfl rfl ?_
  refine RW.opd rfl rfl (LO.assign rfl rfl) ?_
  refine RW.nil ?_
  repeat (refine W.seq ?_)
  refine W.region 5 8 (by decide) rfl rfl ?_
  refine RW.opd rfl rfl (LO.build_st rfl ty24 (.cons rfl rfl rfl rfl (Sp.lit rfl) (.cons rfl rfl rfl rfl (Sp.lit rfl) (.cons rfl rfl rfl rfl (Sp.lit rfl) .nil)))) ?_
  refine RW.opd rfl rfl (LO.alloc rfl ty24) ?_
  refine RW.opn rfl rfl (LO.store rfl rfl rfl rfl rfl ty24 rfl (by decide) (Sp.lit rfl)) ?_
  refine RW.nil ?_
  repeat (refine W.seq ?_)
  refine W.region 12 23 (by decide) rfl rfl ?_
  refine RW.opd rfl rfl (LO.load_agg rfl rfl rfl ty24 rfl (Tk.lit rfl)) ?_
  refine RW.opd rfl rfl (LO.build_st rfl ty52 (.cons rfl rfl rfl rfl (Sp.lit rfl) (.cons rfl rfl rfl rfl (Sp.lit rfl) .nil))) ?_
  refine RW.opd rfl rfl (LO.load_agg rfl rfl rfl ty24 rfl (Tk.lit rfl)) ?_
  refine RW.opd rfl rfl (LO.load_agg rfl rfl rfl ty24 rfl (Tk.lit rfl)) ?_
  refine RW.opd rfl rfl (LO.call0 (fr := []) rfl rfl (he) fok24 (.cons rfl (.pure rfl) (.cons rfl (.pure rfl) (.cons rfl (.pure rfl) .nil))) rfl) ?_
  refine RW.opd rfl rfl (LO.move rfl rfl) ?_
  refine RW.opd rfl rfl (LO.extract rfl rfl rfl) ?_
  refine RW.opd rfl rfl (LO.extract rfl rfl rfl) ?_
  refine RW.opd rfl rfl (LO.alloc rfl ty27) ?_
  refine RW.opn rfl rfl (LO.store rfl rfl rfl rfl rfl ty27 rfl (by decide) (Sp.lit rfl)) ?_
  refine RW.opd rfl rfl (LO.assign rfl rfl) ?_
  refine RW.nil ?_
  repeat (refine W.seq ?_)
  refine W.region 27 35 (by decide) rfl rfl ?_
  refine RW.opd rfl rfl (LO.load_agg rfl rfl rfl ty27 rfl (Tk.lit rfl)) ?_
  refine RW.opd rfl rfl (LO.call0 (fr := []) rfl rfl (hd) fok32 (.cons rfl (.pure rfl) .nil) rfl) ?_
  refine RW.opd rfl rfl (LO.move rfl rfl) ?_
  refine RW.opd rfl rfl (LO.extract rfl rfl rfl) ?_
  refine RW.opd rfl rfl (LO.extract rfl rfl rfl) ?_
  refine RW.opd rfl rfl (LO.alloc rfl ty52) ?_
  refine RW.opn rfl rfl (LO.store rfl rfl rfl rfl rfl ty52 rfl (by decide) (Sp.lit rfl)) ?_
  refine RW.opd rfl rfl (LO.assign rfl rfl) ?_
  refine RW.nil ?_
  have hl2 : ((P.bs.length : Int) == 24) = true := by rw [hl]; rfl
  repeat (refine W.seq ?_)
  refine W.region 39 58 (by decide) rfl rfl ?_
  refine RW.opd rfl rfl (LO.move rfl rfl) ?_
  refine RW.opd rfl rfl (LO.eql rfl rfl rfl) ?_
  refine RW.opd rfl rfl (LO.move rfl rfl) ?_
  refine RW.gd rfl rfl rfl ?_ rfl (LO.move rfl rfl) ?_; (· (first | rfl | assumption))
  refine RW.gd rfl rfl rfl ?_ rfl (LO.eql rfl rfl rfl) ?_; (· (first | rfl | assumption))
  refine RW.opd rfl rfl (LO.pick_t rfl rfl ?_ rfl) ?_; (· (first | rfl | assumption))
  refine RW.opd rfl rfl (LO.move rfl rfl) ?_
  refine RW.gd rfl rfl rfl ?_ rfl (LO.fieldAddr rfl rfl ty27 rfl (by decide)) ?_; (· (first | rfl | assumption))
  refine RW.gd rfl rfl rfl ?_ rfl (LO.load rfl rfl rfl rfl ty25 rfl) ?_; (· (first | rfl | assumption))
  refine RW.gd rfl rfl rfl ?_ rfl (LO.len_isl rfl rfl rfl ty25) ?_; (· (first | rfl | assumption))
  refine RW.gd rfl rfl rfl ?_ rfl (LO.eql rfl rfl rfl) ?_; (· (first | rfl | assumption))
  refine RW.opd rfl rfl (LO.pick_t rfl rfl ?_ rfl) ?_; (· (first | rfl | assumption))
  refine RW.opd rfl rfl (LO.move rfl rfl) ?_
  refine RW.gd rfl rfl rfl ?_ rfl (LO.fieldAddr rfl rfl ty52 rfl (by decide)) ?_; (· (first | rfl | assumption))
  refine RW.gd rfl rfl rfl ?_ rfl (LO.load_agg rfl rfl rfl ty24 rfl (Tk.lit rfl)) ?_; (· (first | rfl | assumption))
  refine RW.gd rfl rfl rfl ?_ rfl (LO.load_agg rfl rfl rfl ty24 rfl (Tk.lit rfl)) ?_; (· (first | rfl | assumption))
  refine RW.gd rfl rfl rfl ?_ rfl (LO.eql_ad aA aA rfl rfl rfl) ?_; (· (first | rfl | assumption))
  refine RW.opd rfl rfl (LO.pick_t rfl rfl ?_ rfl) ?_; (· (first | rfl | assumption))
  refine RW.opd rfl rfl (LO.assign rfl rfl) ?_
  refine RW.nil ?_
  repeat (refine W.seq ?_)
  refine W.ret ⟨.inl rfl, _, mt, (RVs.cons (RV.tmp rfl) RVs.nil), (by (repeat' (first | exact all_mt | refine all_up ?_ ?_)) <;> rfl), ?_⟩
  exact ⟨by rw [heq]; rfl, rfl⟩
end Go.Proofs.Ytoijkcnefnmbjaa
