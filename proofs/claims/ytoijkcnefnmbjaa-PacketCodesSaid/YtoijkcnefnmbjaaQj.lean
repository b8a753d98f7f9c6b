/-
  The packet with a message, by the program.
-/
import Derived.Test.YtoijkcnefnmbjaaQi
import Derived.Test.YtoijkcnefnmbjaaMab
namespace Go.Proofs.Ytoijkcnefnmbjaa
open Go.RowKit
theorem by_sp2 {l : List Int} {k : Nat} {v : Int} (h : k < l.length) : Sp (bytesC l) (0 + k) [.base (.int .u8 v)] (bytesC (l.set k v)) := by
  have := by_sp (v := v) h
  rwa [Nat.mul_one] at this
theorem nbC_pure (n : Nb) : (nbC n).all AV.pure1 = true := by
  unfold nbC adC
  rw [List.all_append, bytesC_pure]; rfl
theorem tk_len {cs : List AV} {n : Nat} (h : cs.length = n * 1) : Tk cs 0 (n * 1) cs := by rw [← h]; exact Tk.all cs
theorem sumL2_len (c : Int) (l : List Int) : (sumL2 c l).length = l.length := by simp [sumL2]
/-- what a message is encoded to -/
def encV (n : Nb) (s d : Ad) : AV := .tup [.agg (pkC (if okN n s d then encN n s d else zPk)), .base (.int .i64 (if okN n s d then 0 else 1))]
set_option maxHeartbeats 1000000 in
theorem enc_any (n : Nb) (s d : Ad) (hl : n.ln.length = 6) (hB : IsB n.ln) (h1 : U64 n.tg.hi) (h2 : U64 n.tg.lo) (s1 : U64 s.hi) (s2 : U64 s.lo) (d1 : U64 d.hi) (d2 : U64 d.lo) : AFn Try.prog 24 0 [.agg (nbC n), .agg (adC s), .agg (adC d)] mt (encV n s d) mt := by
  refine AFn.eq Try.func24 rfl rfl (Nat.le_of_ble_eq_true rfl) ?_
  have hvn := nvalid_any n hl
  have hcase : okN n s d = false ∨ (okN n s d = true ∧ validN n = true ∧ s.v6 = true ∧ d.v6 = true) := by
    unfold okN
    cases validN n <;> cases s.v6 <;> cases d.v6 <;> simp
  have hwh : ∀ t, (t : List AV) = nbC n → Tk t 0 12 (nbC n) := fun t ht => by
    subst ht
    have := Tk.all (nbC n)
    rwa [show (nbC n).length = 12 from by simp [nbC, adC, bytesC_len, hl]] at this
  have hwn := hwh _ rfl
  rcases hcase with hok | ⟨hok, hv, hs6, hd6⟩
  · have hbad : (!validN n) = true ∨ ((!validN n) = false ∧ (!s.v6) = true) ∨ ((!validN n) = false ∧ (!s.v6) = false ∧ (!d.v6) = true) := by
      unfold okN at hok
      cases hh : validN n <;> cases hh2 : s.v6 <;> cases hh3 : d.v6 <;> simp [hh, hh2, hh3] at hok ⊢
    have hev : encV n s d = .tup [.agg (pkC zPk), .base (.int .i64 1)] := by unfold encV; rw [hok]; rfl
    rw [hev]
    repeat (refine W.seq ?_)
    refine W.region 0 5 (by decide) rfl rfl ?_
    refine RW.opd rfl rfl (LO.box rfl rfl rfl) ?_
    refine RW.opd rfl rfl (LO.box rfl rfl rfl) ?_
    refine RW.opd rfl rfl (LO.box rfl rfl rfl) ?_
    refine RW.opd rfl rfl (LO.alloc rfl ty27) ?_
    refine RW.opd rfl rfl (LO.assign rfl rfl) ?_
    refine RW.nil ?_
    unfold adC
    rcases hbad with b1 | ⟨b1, b2⟩ | ⟨b1, b2, b3⟩
    all_goals
      repeat (refine W.seq ?_)
      refine W.region 9 22 (by decide) rfl rfl ?_
      refine RW.opd rfl rfl (LO.load_agg rfl rfl rfl ty52 rfl hwn) ?_
      refine RW.opd rfl rfl (LO.call0 (fr := []) rfl rfl (hvn) fok26 (.cons rfl (.pure (bytesC_pure _)) .nil) rfl) ?_
      refine RW.opd rfl rfl (LO.not rfl rfl) ?_
      refine RW.opd rfl rfl (LO.move rfl rfl) ?_
      first
          | (refine RW.sd rfl rfl rfl ?_ rfl ?_; (· (first | rfl | assumption)))
          | (refine RW.gd rfl rfl rfl ?_ rfl (LO.fieldAddr rfl rfl ty24 rfl (by decide)) ?_; (· (first | rfl | assumption)))
      first
          | (refine RW.sd rfl rfl rfl ?_ rfl ?_; (· (first | rfl | assumption)))
          | (refine RW.gd rfl rfl rfl ?_ rfl (LO.load rfl rfl rfl rfl ty4 rfl) ?_; (· (first | rfl | assumption)))
      first
          | (refine RW.sd rfl rfl rfl ?_ rfl ?_; (· (first | rfl | assumption)))
          | (refine RW.gd rfl rfl rfl ?_ rfl (LO.not rfl rfl) ?_; (· (first | rfl | assumption)))
      first
          | (refine RW.opd rfl rfl (LO.pick_t rfl rfl ?_ rfl) ?_; (· (first | rfl | assumption)))
          | (refine RW.opd rfl rfl (LO.pick_f rfl rfl ?_ rfl) ?_; (· (first | rfl | assumption)))
      refine RW.opd rfl rfl (LO.move rfl rfl) ?_
      first
          | (refine RW.sd rfl rfl rfl ?_ rfl ?_; (· (first | rfl | assumption)))
          | (refine RW.gd rfl rfl rfl ?_ rfl (LO.fieldAddr rfl rfl ty24 rfl (by decide)) ?_; (· (first | rfl | assumption)))
      first
          | (refine RW.sd rfl rfl rfl ?_ rfl ?_; (· (first | rfl | assumption)))
          | (refine RW.gd rfl rfl rfl ?_ rfl (LO.load rfl rfl rfl rfl ty4 rfl) ?_; (· (first | rfl | assumption)))
      first
          | (refine RW.sd rfl rfl rfl ?_ rfl ?_; (· (first | rfl | assumption)))
          | (refine RW.gd rfl rfl rfl ?_ rfl (LO.not rfl rfl) ?_; (· (first | rfl | assumption)))
      first
          | (refine RW.opd rfl rfl (LO.pick_t rfl rfl ?_ rfl) ?_; (· (first | rfl | assumption)))
          | (refine RW.opd rfl rfl (LO.pick_f rfl rfl ?_ rfl) ?_; (· (first | rfl | assumption)))
      refine RW.nil ?_
      repeat (refine W.seq ?_)
      refine W.cond_t rfl (by first | rfl | assumption) ?_
      repeat (refine W.seq ?_)
      refine W.region 26 29 (by decide) rfl rfl ?_
      refine RW.opd rfl rfl (LO.build_st rfl ty27 .nil) ?_
      refine RW.opn rfl rfl (LO.store rfl rfl rfl rfl rfl ty27 rfl (by decide) (Sp.lit rfl)) ?_
      refine RW.opd rfl rfl (LO.assign rfl rfl) ?_
      refine RW.nil ?_
      refine W.nilc (q := 3) (j := 8) rfl rfl (Sp.lit rfl) ?_
      repeat (refine W.seq ?_)
      refine W.ret ⟨.inl rfl, _, mt, (RVs.cons (RV.cellA rfl rfl ty27 rfl (Tk.lit rfl)) (RVs.cons (RV.tmp rfl) RVs.nil)), (by (repeat' (first | exact all_mt | refine all_up ?_ ?_)) <;> rfl), ?_⟩
      exact ⟨rfl, rfl⟩
  · have hfx := fixed_any n hl (validN_tg hv) h1 h2
    have b1 : (!validN n) = false := by rw [hv]; rfl
    have b2 : (!s.v6) = false := by rw [hs6]; rfl
    have b3 : (!d.v6) = false := by rw [hd6]; rfl
    have hev : encV n s d = .tup [.agg (pkC (encN n s d)), .base (.int .i64 0)] := by unfold encV; rw [hok]; rfl
    rw [hev]
    have hel := encL_len hl
    have hfl := fixL_len n
    have hop := option_any
    have hva : ∀ a : Ad, a.v6 = true → validA a.v6 a.hi a.lo = true := fun a h => by unfold validA; rw [h]; rfl
    have hck := chk_any s d 58 (encL n) (hva s hs6) (hva d hd6) s1 s2 d1 d2 (encL_isB hB) (by omega)
    have hen : encL n = [IntKind.u8.wrap n.k, 0, 0, 0] ++ fixL n ++ (if n.has then [optN n.k, 1] ++ n.ln else []) := rfl
    unfold adC at hck
    repeat (refine W.seq ?_)
    refine W.region 0 5 (by decide) rfl rfl ?_
    refine RW.opd rfl rfl (LO.box rfl rfl rfl) ?_
    refine RW.opd rfl rfl (LO.box rfl rfl rfl) ?_
    refine RW.opd rfl rfl (LO.box rfl rfl rfl) ?_
    refine RW.opd rfl rfl (LO.alloc rfl ty27) ?_
    refine RW.opd rfl rfl (LO.assign rfl rfl) ?_
    refine RW.nil ?_
    unfold adC
    repeat (refine W.seq ?_)
    refine W.region 9 22 (by decide) rfl rfl ?_
    refine RW.opd rfl rfl (LO.load_agg rfl rfl rfl ty52 rfl hwn) ?_
    refine RW.opd rfl rfl (LO.call0 (fr := []) rfl rfl (hvn) fok26 (.cons rfl (.pure (bytesC_pure _)) .nil) rfl) ?_
    refine RW.opd rfl rfl (LO.not rfl rfl) ?_
    refine RW.opd rfl rfl (LO.move rfl rfl) ?_
    refine RW.gd rfl rfl rfl ?_ rfl (LO.fieldAddr rfl rfl ty24 rfl (by decide)) ?_; (· (first | rfl | assumption))
    refine RW.gd rfl rfl rfl ?_ rfl (LO.load rfl rfl rfl rfl ty4 rfl) ?_; (· (first | rfl | assumption))
    refine RW.gd rfl rfl rfl ?_ rfl (LO.not rfl rfl) ?_; (· (first | rfl | assumption))
    refine RW.opd rfl rfl (LO.pick_f rfl rfl ?_ rfl) ?_; (· (first | rfl | assumption))
    refine RW.opd rfl rfl (LO.move rfl rfl) ?_
    refine RW.gd rfl rfl rfl ?_ rfl (LO.fieldAddr rfl rfl ty24 rfl (by decide)) ?_; (· (first | rfl | assumption))
    refine RW.gd rfl rfl rfl ?_ rfl (LO.load rfl rfl rfl rfl ty4 rfl) ?_; (· (first | rfl | assumption))
    refine RW.gd rfl rfl rfl ?_ rfl (LO.not rfl rfl) ?_; (· (first | rfl | assumption))
    refine RW.opd rfl rfl (LO.pick_f rfl rfl ?_ rfl) ?_; (· (first | rfl | assumption))
    refine RW.nil ?_
    repeat (refine W.seq ?_)
    refine W.cond_f rfl (by first | rfl | assumption) ?_
    refine W.skip ?_
    repeat (refine W.seq ?_)
    refine W.regionD 33 41 (by decide) rfl mixed rfl ?_
    refine RW.opd rfl rfl (LO.fieldAddr rfl rfl ty52 rfl (by decide)) ?_
    refine RW.opd rfl rfl (LO.load rfl rfl rfl rfl ty3 rfl) ?_
    refine RW.opd rfl rfl (LO.conv rfl rfl ty3 ty5) ?_
    refine RW.opd rfl rfl (LO.buildSlice rfl ty25 ty5 (by decide) (by decide) (.cons rfl rfl rfl rfl (Sp.lit rfl) (.cons rfl rfl rfl rfl (Sp.lit rfl) (.cons rfl rfl rfl rfl (Sp.lit rfl) (.cons rfl rfl rfl rfl (Sp.lit rfl) .nil))))) ?_
    refine RW.opd rfl rfl (LO.load_agg rfl rfl rfl ty52 rfl hwn) ?_
    refine RW.opd rfl rfl (LO.callO (fr := []) rfl rfl (hfx) fok47 (.cons rfl (.pure (bytesC_pure _)) .nil) (bytesC_pure _) (by decide)) ?_
    refine RW.opd rfl rfl (LO.append rfl rfl (SrcAV.own rfl rfl (bytes_tk rfl)) rfl (Tk.lit rfl) ty25 ty25 ty5 (by decide) (by first | omega | (simp; omega)) (by first | omega | (simp; omega)) (by decide)) ?_
    refine RW.opd rfl rfl (LO.assign rfl rfl) ?_
    refine RW.nil ⟨by kernel_rfl, ?_⟩
    rw [show [AV.base (.int .u8 (IntKind.u8.wrap n.k)), AV.base (.int .u8 0), AV.base (.int .u8 0), AV.base (.int .u8 0)] ++ bytesC (fixL n) = bytesC ([IntKind.u8.wrap n.k, 0, 0, 0] ++ fixL n) from by rw [bytesC_app]; rfl, show 4 + (fixL n).length = ([IntKind.u8.wrap n.k, 0, 0, 0] ++ fixL n).length from by simp; omega]
    obtain ⟨L3, hL3⟩ : ∃ L3, [IntKind.u8.wrap n.k, 0, 0, 0] ++ fixL n = L3 := ⟨_, rfl⟩
    rw [hL3] at hen
    have hl3 : L3.length ≤ 40 := by rw [← hL3]; simp; omega
    rw [hL3]
    refine W.frzo (t := 3) rfl rfl (nbC_pure n) ?_
    repeat (refine W.seq ?_)
    refine W.region 45 47 (by decide) rfl rfl ?_
    refine RW.opd rfl rfl (LO.fieldAddr_imm rfl rfl ty52 rfl (by decide)) ?_
    refine RW.opd rfl rfl (LO.load_imm rfl rfl rfl ty4 rfl) ?_
    refine RW.nil ?_
    cases hh : n.has with
    | true =>
      have hfin : L3 ++ [optN n.k, 1] ++ n.ln = encL n := by rw [hen, hh, List.append_assoc]; rfl
      repeat (refine W.seq ?_)
      refine W.cond_t rfl (by first | rfl | assumption) ?_
      repeat (refine W.seq ?_)
      refine W.regionD 51 61 (by decide) rfl mixed rfl ?_
      refine RW.opd rfl rfl (LO.move rfl rfl) ?_
      refine RW.opd rfl rfl (LO.fieldAddr_imm rfl rfl ty52 rfl (by decide)) ?_
      refine RW.opd rfl rfl (LO.load_imm rfl rfl rfl ty3 rfl) ?_
      refine RW.opd rfl rfl (LO.call0 (fr := []) rfl rfl (hop _) fok48 (.cons rfl (.pure rfl) .nil) rfl) ?_
      refine RW.opd rfl rfl (LO.buildSlice rfl ty25 ty5 (by decide) (by decide) (.cons rfl rfl rfl rfl (Sp.lit rfl) (.cons rfl rfl rfl rfl (Sp.lit rfl) .nil))) ?_
      refine RW.opd rfl rfl (LO.append rfl rfl (SrcAV.own rfl rfl (Tk.lit rfl)) rfl (bytes_tk rfl) ty25 ty25 ty5 (by decide) (by first | omega | (simp; omega)) (by first | omega | (simp; omega)) (by decide)) ?_
      refine RW.opd rfl rfl (LO.fieldAddr_imm rfl rfl ty52 rfl (by decide)) ?_
      refine RW.opd rfl rfl (LO.slice_imm rfl rfl ty50 ty5 (nb_tkM hl) (by decide)) ?_
      refine RW.opd rfl rfl (LO.append rfl rfl (SrcAV.isl rfl rfl (by rw [bytesC_len, hl])) rfl (tk_len (by simp [bytesC_len])) ty25 ty25 ty5 (by decide) (by first | omega | (simp; omega)) (by first | omega | (simp; omega)) (by decide)) ?_
      refine RW.opd rfl rfl (LO.assign rfl rfl) ?_
      refine RW.nil ⟨by kernel_rfl, ?_⟩
      have hfin2 : bytesC (encL n) = bytesC L3 ++ [AV.base (.int .u8 (optN n.k)), AV.base (.int .u8 1)] ++ bytesC n.ln := by rw [← hfin, bytesC_app, bytesC_app]; rfl
      have hfl2 : L3.length + 2 + 6 = (encL n).length := by rw [← hfin]; simp [hl]
      rw [hfl2]
      rw [← hfin2]
      obtain ⟨E0, hE0⟩ : ∃ E0, encL n = E0 := ⟨_, rfl⟩
      rw [hE0] at hck hel ⊢
      repeat (refine W.seq ?_)
      refine W.region 65 70 (by decide) rfl rfl ?_
      refine RW.opd rfl rfl (LO.load_agg rfl rfl rfl ty24 rfl (Tk.lit rfl)) ?_
      refine RW.opd rfl rfl (LO.load_agg rfl rfl rfl ty24 rfl (Tk.lit rfl)) ?_
      refine RW.opd rfl rfl (LO.move rfl rfl) ?_
      refine RW.opd rfl rfl (LO.callB (fr := [59]) rfl rfl (hck) fok49 (.cons rfl (.pure rfl) (.cons rfl (.pure rfl) (.cons rfl (.pure rfl) (.cons rfl (.one (.osl (by decide) rfl (bytes_tk rfl) (bytesC_pure _))) .nil))))) ?_
      refine RW.opd rfl rfl (LO.assign rfl rfl) ?_
      refine RW.nil ?_
      repeat (refine W.seq ?_)
      refine W.region 74 85 (by decide) rfl rfl ?_
      refine RW.opd rfl rfl (LO.move rfl rfl) ?_
      refine RW.opd rfl rfl (LO.move rfl rfl) ?_
      refine RW.opd rfl rfl (LO.move rfl rfl) ?_
      refine RW.opd rfl rfl (LO.shr rfl rfl rfl ?_) ?_; (· (first | omega | decide | assumption | fail | (simp; done) | (simp; omega)))
      refine RW.opd rfl rfl (LO.conv rfl rfl ty40 ty5) ?_
      refine RW.opd rfl rfl (LO.move rfl rfl) ?_
      refine RW.opd rfl rfl (LO.conv rfl rfl ty40 ty5) ?_
      refine RW.opd rfl rfl (LO.indexAddr rfl rfl rfl rfl ty25 ty5 ?_) ?_; (· (first | omega | decide | assumption | fail | (simp; done) | (simp; omega)))
      refine RW.opn rfl rfl (LO.store rfl rfl rfl rfl rfl ty5 rfl (by decide) (by_sp (by first | omega | (simp; omega)))) ?_
      refine RW.opd rfl rfl (LO.indexAddr rfl rfl rfl rfl ty25 ty5 ?_) ?_; (· (first | omega | decide | assumption | fail | (simp; done) | (simp; omega)))
      refine RW.opn rfl rfl (LO.store rfl rfl rfl rfl rfl ty5 rfl (by decide) (by_sp (by first | omega | (simp; omega)))) ?_
      refine RW.nil ?_
      rw [← sumL2_len (chkF s d 58 E0) E0]
      refine W.frz1 (t := 8) rfl rfl (bytes_tk (l := sumL2 (chkF s d 58 E0) E0) rfl) (bytesC_pure _) ?_
      repeat (refine W.seq ?_)
      refine W.region 89 95 (by decide) rfl rfl ?_
      refine RW.opd rfl rfl (LO.load_agg rfl rfl rfl ty24 rfl (Tk.lit rfl)) ?_
      refine RW.opd rfl rfl (LO.load_agg rfl rfl rfl ty24 rfl (Tk.lit rfl)) ?_
      refine RW.opd rfl rfl (LO.move rfl rfl) ?_
      refine RW.opd rfl rfl (LO.build_st rfl ty27 (.cons rfl rfl rfl rfl (Sp.lit rfl) (.cons rfl rfl rfl rfl (Sp.lit rfl) (.cons rfl rfl rfl rfl (Sp.lit rfl) (.cons rfl rfl rfl rfl (Sp.lit rfl) (.cons rfl rfl rfl rfl (Sp.lit rfl) .nil)))))) ?_
      refine RW.opn rfl rfl (LO.store rfl rfl rfl rfl rfl ty27 rfl (by decide) (Sp.lit rfl)) ?_
      refine RW.opd rfl rfl (LO.assign rfl rfl) ?_
      refine RW.nil ?_
      repeat (refine W.seq ?_)
      refine W.ret ⟨.inl rfl, _, mt, (RVs.cons (RV.cellA rfl rfl ty27 rfl (Tk.lit rfl)) (RVs.cons (RV.tmp rfl) RVs.nil)), (by (repeat' (first | exact all_mt | refine all_up ?_ ?_)) <;> rfl), ?_⟩
      subst hE0
      exact ⟨rfl, rfl⟩
    | false =>
      have hfin : L3 = encL n := by rw [hen, hh]; simp
      repeat (refine W.seq ?_)
      refine W.cond_f rfl (by first | rfl | assumption) ?_
      refine W.skip ?_
      have hfin2 : bytesC (encL n) = bytesC L3 := by rw [hfin]
      rw [show L3.length = (encL n).length from by rw [hfin]]
      rw [← hfin2]
      obtain ⟨E0, hE0⟩ : ∃ E0, encL n = E0 := ⟨_, rfl⟩
      rw [hE0] at hck hel ⊢
      repeat (refine W.seq ?_)
      refine W.region 65 70 (by decide) rfl rfl ?_
      refine RW.opd rfl rfl (LO.load_agg rfl rfl rfl ty24 rfl (Tk.lit rfl)) ?_
      refine RW.opd rfl rfl (LO.load_agg rfl rfl rfl ty24 rfl (Tk.lit rfl)) ?_
      refine RW.opd rfl rfl (LO.move rfl rfl) ?_
      refine RW.opd rfl rfl (LO.callB (fr := [39]) rfl rfl (hck) fok49 (.cons rfl (.pure rfl) (.cons rfl (.pure rfl) (.cons rfl (.pure rfl) (.cons rfl (.one (.osl (by decide) rfl (bytes_tk rfl) (bytesC_pure _))) .nil))))) ?_
      refine RW.opd rfl rfl (LO.assign rfl rfl) ?_
      refine RW.nil ?_
      repeat (refine W.seq ?_)
      refine W.region 74 85 (by decide) rfl rfl ?_
      refine RW.opd rfl rfl (LO.move rfl rfl) ?_
      refine RW.opd rfl rfl (LO.move rfl rfl) ?_
      refine RW.opd rfl rfl (LO.move rfl rfl) ?_
      refine RW.opd rfl rfl (LO.shr rfl rfl rfl ?_) ?_; (· (first | omega | decide | assumption | fail | (simp; done) | (simp; omega)))
      refine RW.opd rfl rfl (LO.conv rfl rfl ty40 ty5) ?_
      refine RW.opd rfl rfl (LO.move rfl rfl) ?_
      refine RW.opd rfl rfl (LO.conv rfl rfl ty40 ty5) ?_
      refine RW.opd rfl rfl (LO.indexAddr rfl rfl rfl rfl ty25 ty5 ?_) ?_; (· (first | omega | decide | assumption | fail | (simp; done) | (simp; omega)))
      refine RW.opn rfl rfl (LO.store rfl rfl rfl rfl rfl ty5 rfl (by decide) (by_sp (by first | omega | (simp; omega)))) ?_
      refine RW.opd rfl rfl (LO.indexAddr rfl rfl rfl rfl ty25 ty5 ?_) ?_; (· (first | omega | decide | assumption | fail | (simp; done) | (simp; omega)))
      refine RW.opn rfl rfl (LO.store rfl rfl rfl rfl rfl ty5 rfl (by decide) (by_sp (by first | omega | (simp; omega)))) ?_
      refine RW.nil ?_
      rw [← sumL2_len (chkF s d 58 E0) E0]
      refine W.frz1 (t := 8) rfl rfl (bytes_tk (l := sumL2 (chkF s d 58 E0) E0) rfl) (bytesC_pure _) ?_
      repeat (refine W.seq ?_)
      refine W.region 89 95 (by decide) rfl rfl ?_
      refine RW.opd rfl rfl (LO.load_agg rfl rfl rfl ty24 rfl (Tk.lit rfl)) ?_
      refine RW.opd rfl rfl (LO.load_agg rfl rfl rfl ty24 rfl (Tk.lit rfl)) ?_
      refine RW.opd rfl rfl (LO.move rfl rfl) ?_
      refine RW.opd rfl rfl (LO.build_st rfl ty27 (.cons rfl rfl rfl rfl (Sp.lit rfl) (.cons rfl rfl rfl rfl (Sp.lit rfl) (.cons rfl rfl rfl rfl (Sp.lit rfl) (.cons rfl rfl rfl rfl (Sp.lit rfl) (.cons rfl rfl rfl rfl (Sp.lit rfl) .nil)))))) ?_
      refine RW.opn rfl rfl (LO.store rfl rfl rfl rfl rfl ty27 rfl (by decide) (Sp.lit rfl)) ?_
      refine RW.opd rfl rfl (LO.assign rfl rfl) ?_
      refine RW.nil ?_
      repeat (refine W.seq ?_)
      refine W.ret ⟨.inl rfl, _, mt, (RVs.cons (RV.cellA rfl rfl ty27 rfl (Tk.lit rfl)) (RVs.cons (RV.tmp rfl) RVs.nil)), (by (repeat' (first | exact all_mt | refine all_up ?_ ?_)) <;> rfl), ?_⟩
      subst hE0
      exact ⟨rfl, rfl⟩
end Go.Proofs.Ytoijkcnefnmbjaa
