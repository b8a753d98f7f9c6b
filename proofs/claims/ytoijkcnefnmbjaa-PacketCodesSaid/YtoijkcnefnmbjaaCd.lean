/-
  The bytes of a packet.
-/
import Derived.Test.YtoijkcnefnmbjaaCc
namespace Go.Proofs.Ytoijkcnefnmbjaa
open Go.RowKit
theorem by_tk2 {L M : List Int} {n : Nat} (h : L.length + M.length = n) : Tk (bytesC L ++ bytesC M) 0 (n * 1) (bytesC (L ++ M)) := by
  rw [← bytesC_app]; exact bytes_tk (by simp [h])
theorem by_cp2 {l : List Int} {k : Nat} {x y : Int} (h : k + 2 ≤ l.length) : Cp (bytesC l) (0 + k * 1) (bytesC [x, y]) (bytesC ((l.set k x).set (k + 1) y)) := by
  intro j c hj
  rw [Nat.zero_add, Nat.mul_one]
  simp only [bytesC, List.getElem?_map, List.getElem?_set, List.length_set] at hj ⊢
  by_cases c1 : k + 1 = j
  · subst c1
    rw [if_pos rfl, if_pos (by omega)] at hj
    refine .inl ⟨by omega, ?_⟩
    rw [show k + 1 - k = 1 from by omega]
    exact hj
  · rw [if_neg c1] at hj
    by_cases c2 : k = j
    · subst c2
      rw [if_pos rfl, if_pos (by omega)] at hj
      refine .inl ⟨Nat.le_refl _, ?_⟩
      rw [Nat.sub_self]
      exact hj
    · rw [if_neg c2] at hj
      exact .inr ⟨by simp; omega, hj⟩
def hdB (p : Pk) : List Int := [69, 0] ++ putL (20 + (p.bs.length : Int)) ++ [0, 0, 64, 0, p.t, p.p, 0, 0] ++ (addrL p.s ++ addrL p.d)
def hdS (p : Pk) : List Int := ((hdB p).set 10 (hi8 (sumL (hdB p)))).set 11 (IntKind.u8.wrap (sumL (hdB p)))
def encB (p : Pk) : List Int := if p.s.v6 then [96, 0, 0, 0] ++ putL (p.bs.length : Int) ++ [p.p, p.t] ++ (addrL p.s ++ addrL p.d) ++ p.bs else hdS p ++ p.bs
def encL2 (p : Pk) : List Int := if vpk p then encB p else []
def encE (p : Pk) : Int := if vpk p then 0 else 1
def ecV (p : Pk) : AV := .tup [.isl (bytesC (encL2 p)) (encL2 p).length, .base (.int .i64 (encE p))]
theorem ecV_pure (p : Pk) : (ecV p).pure = true := by
  show (AV.pure1 (.isl (bytesC (encL2 p)) (encL2 p).length) && true) = true
  rfl
theorem hdB_len (p : Pk) : (hdB p).length = 12 + ((addrL p.s).length + (addrL p.d).length) := by simp [hdB, putL]; omega
theorem hdB_isB {p : Pk} (h1 : 0 ≤ p.p ∧ p.p ≤ 255) (h2 : 0 ≤ p.t ∧ p.t ≤ 255) : IsB (hdB p) := by
  unfold hdB
  refine IsB.append (IsB.append (IsB.append ?_ (putL_isB _)) ?_) ((addrL_isB _).append (addrL_isB _))
  · intro x hx
    simp only [List.mem_cons, List.not_mem_nil, or_false] at hx
    omega
  · intro x hx
    simp only [List.mem_cons, List.not_mem_nil, or_false] at hx
    omega
theorem adl_len (a : Ad) : (addrL a).length ≤ 16 ∧ 4 ≤ (addrL a).length := by rw [addrL_len]; split <;> omega
set_option maxHeartbeats 4000000 in
theorem penc_any (p : Pk) (s1 : U64 p.s.hi) (s2 : U64 p.s.lo) (d1 : U64 p.d.hi) (d2 : U64 p.d.lo) (hB : IsB p.bs) : AFn Try.prog 14 0 [.agg (pkC p)] mt (ecV p) mt := by
  refine AFn.eq Try.func14 rfl rfl (Nat.le_of_ble_eq_true rfl) ?_
  have hpv := pvalid_any p
  cases hv : vpk p
  · rw [hv] at hpv
    have he : ecV p = .tup [.isl [] 0, .base (.int .i64 1)] := by unfold ecV encL2 encE; rw [hv]; rfl
    rw [he]
    repeat (refine W.seq ?_)
    refine W.region 0 3 (by decide) rfl rfl ?_
    refine RW.opd rfl rfl (LO.box rfl rfl rfl) ?_
    refine RW.opd rfl rfl (LO.assign rfl rfl) ?_
    refine RW.opd rfl rfl (LO.assign rfl rfl) ?_
    refine RW.nil ?_
    repeat (refine W.seq ?_)
    refine W.region 7 10 (by decide) rfl rfl ?_
    refine RW.opd rfl rfl (LO.load_agg rfl rfl rfl ty27 rfl (Tk.lit rfl)) ?_
    refine RW.opd rfl rfl (LO.call0 (fr := []) rfl rfl (hpv) fok15 (.cons rfl (.pure (pkC_pure p)) .nil) rfl) ?_
    refine RW.opd rfl rfl (LO.not rfl rfl) ?_
    refine RW.nil ?_
    repeat (refine W.seq ?_)
    refine W.cond_t rfl (by first | rfl | assumption) ?_
    repeat (refine W.seq ?_)
    refine W.region 14 16 (by decide) rfl rfl ?_
    refine RW.opd rfl rfl (LO.assign rfl rfl) ?_
    refine RW.opd rfl rfl (LO.assign rfl rfl) ?_
    refine RW.nil ?_
    refine W.nilt (t := 2) rfl ?_
    repeat (refine W.seq ?_)
    refine W.ret ⟨.inl rfl, _, mt, (RVs.cons (RV.tmp rfl) (RVs.cons (RV.tmp rfl) RVs.nil)), (by (repeat' (first | exact all_mt | refine all_up ?_ ?_)) <;> rfl), ?_⟩
    exact ⟨rfl, rfl⟩
  rw [hv] at hpv
  obtain ⟨v1, v2, v3⟩ := vpk_parts hv
  have v4 := valid_parts hv
  have he : ecV p = .tup [.isl (bytesC (encB p)) (encB p).length, .base (.int .i64 0)] := by unfold ecV encL2 encE; rw [hv]; rfl
  rw [he]
  obtain ⟨_, _, hp4, hp5, hp6, hp7⟩ := v4
  have hbs := bytes_any p.s v1 s1 s2
  have hbd := bytes_any p.d v2 d1 d2
  have hls := adl_len p.s
  have hld := adl_len p.d
  cases h6 : p.s.v6
  · have hhl := hdB_len p
    have hhB := hdB_isB hp5 hp6
    have hsb := sumL_bd hhB
    have hsm := sum_any (hdB p) hhB (by omega)
    obtain ⟨S, hS⟩ : ∃ S, sumL (hdB p) = S := ⟨_, rfl⟩
    rw [hS] at hsb hsm
    have hhs : hdS p = ((hdB p).set 10 (hi8 S)).set 11 (IntKind.u8.wrap S) := by unfold hdS; rw [hS]
    have hsl : (hdS p).length = (hdB p).length := by rw [hhs]; simp
    have heB : encB p = hdS p ++ p.bs := by unfold encB; rw [h6]; rfl
    have hal : (addrL p.s ++ addrL p.d).length = (addrL p.s).length + (addrL p.d).length := List.length_append
    have hpl : (putL (20 + (p.bs.length : Int))).length = 2 := rfl
    have hH : bytesC ([69, 0] ++ putL (20 + (p.bs.length : Int)) ++ [0, 0, 64, 0, p.t, p.p, 0, 0]) ++ bytesC (addrL p.s ++ addrL p.d) = bytesC (hdB p) := by rw [← bytesC_app]; rfl
    have hHT : Tk (bytesC ([69, 0] ++ putL (20 + (p.bs.length : Int)) ++ [0, 0, 64, 0, p.t, p.p, 0, 0]) ++ bytesC (addrL p.s ++ addrL p.d)) 0 ((2 + 2 + 8 + ((addrL p.s).length + (addrL p.d).length)) * 1) (bytesC (hdB p)) := by rw [hH]; exact bytes_tk (by rw [hhl])
    rw [heB]
    repeat (refine W.seq ?_)
    refine W.region 0 3 (by decide) rfl rfl ?_
    refine RW.opd rfl rfl (LO.box rfl rfl rfl) ?_
    refine RW.opd rfl rfl (LO.assign rfl rfl) ?_
    refine RW.opd rfl rfl (LO.assign rfl rfl) ?_
    refine RW.nil ?_
    repeat (refine W.seq ?_)
    refine W.region 7 10 (by decide) rfl rfl ?_
    refine RW.opd rfl rfl (LO.load_agg rfl rfl rfl ty27 rfl (Tk.lit rfl)) ?_
    refine RW.opd rfl rfl (LO.call0 (fr := []) rfl rfl (hpv) fok15 (.cons rfl (.pure (pkC_pure p)) .nil) rfl) ?_
    refine RW.opd rfl rfl (LO.not rfl rfl) ?_
    refine RW.nil ?_
    repeat (refine W.seq ?_)
    refine W.cond_f rfl (by first | rfl | assumption) ?_
    refine W.skip ?_
    unfold adC at hbs hbd
    repeat (refine W.seq ?_)
    refine W.regionD 20 28 (by decide) rfl mixed rfl ?_
    refine RW.opd rfl rfl (LO.fieldAddr rfl rfl ty27 rfl (by decide)) ?_
    refine RW.opd rfl rfl (LO.load_agg rfl rfl rfl ty24 rfl (Tk.lit rfl)) ?_
    refine RW.opd rfl rfl (LO.callO (fr := []) rfl rfl (hbs) fok37 (.cons rfl (.pure rfl) .nil) (bytesC_pure _) (by decide)) ?_
    refine RW.opd rfl rfl (LO.fieldAddr rfl rfl ty27 rfl (by decide)) ?_
    refine RW.opd rfl rfl (LO.load_agg rfl rfl rfl ty24 rfl (Tk.lit rfl)) ?_
    refine RW.opd rfl rfl (LO.callO (fr := []) rfl rfl (hbd) fok37 (.cons rfl (.pure rfl) .nil) (bytesC_pure _) (by decide)) ?_
    refine RW.opd rfl rfl (LO.append rfl rfl (SrcAV.own rfl rfl (bytes_tk rfl)) rfl (bytes_tk rfl) ty25 ty25 ty5 (by decide) (by omega) (by omega) (by decide)) ?_
    refine RW.opd rfl rfl (LO.assign rfl rfl) ?_
    refine RW.nil ⟨by kernel_rfl, ?_⟩
    repeat (refine W.seq ?_)
    refine W.region 32 35 (by decide) rfl rfl ?_
    refine RW.opd rfl rfl (LO.fieldAddr rfl rfl ty27 rfl (by decide)) ?_
    refine RW.opd rfl rfl (LO.fieldAddr rfl rfl ty24 rfl (by decide)) ?_
    refine RW.opd rfl rfl (LO.load rfl rfl rfl rfl ty4 rfl) ?_
    refine RW.nil ?_
    repeat (refine W.seq ?_)
    refine W.cond_f rfl (by first | rfl | assumption) ?_
    refine W.skip ?_
    repeat (refine W.seq ?_)
    refine W.regionD 69 84 (by decide) rfl mixed rfl ?_
    refine RW.opd rfl rfl (LO.buildSlice rfl ty25 ty5 (by decide) (by decide) (.cons rfl rfl rfl rfl (Sp.lit rfl) (.cons rfl rfl rfl rfl (Sp.lit rfl) .nil))) ?_
    refine RW.opd rfl rfl (LO.fieldAddr rfl rfl ty27 rfl (by decide)) ?_
    refine RW.opd rfl rfl (LO.load rfl rfl rfl rfl ty25 rfl) ?_
    refine RW.opd rfl rfl (LO.len_isl rfl rfl rfl ty25) ?_
    refine RW.opd rfl rfl (LO.add_in rfl rfl rfl ?_) ?_; (· (first | exact IntWalk.i64_in _ (by omega) | assumption))
    refine RW.opd rfl rfl (LO.callS (fr := []) rfl rfl (put_any [69, 0] (20 + (p.bs.length : Int)) (by decide)) fok38 (.osl rfl rfl (.cons rfl (.pure rfl) .nil)) rfl rfl rfl (List.cons_ne_nil _ _) (by decide) (by decide) (by decide)) ?_
    refine RW.opd rfl rfl (LO.fieldAddr rfl rfl ty27 rfl (by decide)) ?_
    refine RW.opd rfl rfl (LO.load rfl rfl rfl rfl ty3 rfl) ?_
    refine RW.opd rfl rfl (LO.conv_in rfl rfl ty3 ty5 ?_) ?_; (· (first | exact IntWalk.u8_in _ (by omega) | assumption))
    refine RW.opd rfl rfl (LO.fieldAddr rfl rfl ty27 rfl (by decide)) ?_
    refine RW.opd rfl rfl (LO.load rfl rfl rfl rfl ty3 rfl) ?_
    refine RW.opd rfl rfl (LO.conv_in rfl rfl ty3 ty5 ?_) ?_; (· (first | exact IntWalk.u8_in _ (by omega) | assumption))
    refine RW.opd rfl rfl (LO.buildSlice rfl ty25 ty5 (by decide) (by decide) (.cons rfl rfl rfl rfl (Sp.lit rfl) (.cons rfl rfl rfl rfl (Sp.lit rfl) (.cons rfl rfl rfl rfl (Sp.lit rfl) (.cons rfl rfl rfl rfl (Sp.lit rfl) (.cons rfl rfl rfl rfl (Sp.lit rfl) (.cons rfl rfl rfl rfl (Sp.lit rfl) (.cons rfl rfl rfl rfl (Sp.lit rfl) (.cons rfl rfl rfl rfl (Sp.lit rfl) .nil))))))))) ?_
    refine RW.opd rfl rfl (LO.append rfl rfl (SrcAV.own rfl rfl (Tk.lit rfl)) rfl (bytes_tk (l := [69, 0] ++ putL (20 + (p.bs.length : Int))) rfl) ty25 ty25 ty5 (by decide) (by decide) (by decide) (by decide)) ?_
    refine RW.opd rfl rfl (LO.assign rfl rfl) ?_
    refine RW.nil ⟨by kernel_rfl, ?_⟩
    repeat (refine W.seq ?_)
    refine W.region 88 92 (by decide) rfl rfl ?_
    refine RW.opd rfl rfl (LO.move rfl rfl) ?_
    refine RW.opd rfl rfl (LO.move rfl rfl) ?_
    refine RW.opd rfl rfl (LO.append rfl rfl (SrcAV.own rfl rfl (by_tk2 rfl)) rfl (by_tk2 (L := [69, 0] ++ putL (20 + (p.bs.length : Int))) (M := [0, 0, 64, 0, p.t, p.p, 0, 0]) rfl) ty25 ty25 ty5 (by decide) (by simp; omega) (by simp; omega) (by decide)) ?_
    refine RW.opd rfl rfl (LO.assign rfl rfl) ?_
    refine RW.nil ?_
    rw [hhl] at hsm
    repeat (refine W.seq ?_)
    refine W.regionD 96 103 (by decide) rfl mixed rfl ?_
    refine RW.opd rfl rfl (LO.move rfl rfl) ?_
    refine RW.opd rfl rfl (LO.slice rfl rfl (Bnd.at rfl rfl) Bnd.no ?_ ?_ ty25 ty5) ?_; (· (first | omega | decide | assumption | fail | (simp; done) | (simp; omega))); (· (first | omega | decide | assumption | fail | (simp; done) | (simp; omega)))
    refine RW.opd rfl rfl (LO.move rfl rfl) ?_
    refine RW.opd rfl rfl (LO.callB (fr := [90]) rfl rfl (hsm) fok33 (.cons rfl (.one (.osl (by decide) rfl hHT (bytesC_pure _))) .nil)) ?_
    refine RW.opd rfl rfl (LO.conv_in rfl rfl ty40 ty3 ?_) ?_; (· (first | exact IntWalk.i64_in _ (by omega) | assumption))
    refine RW.opd rfl rfl (LO.callO (fr := []) rfl rfl (put_nil S) fok38 (.cons rfl (.pure rfl) (.cons rfl (.pure rfl) .nil)) rfl (by decide)) ?_
    refine RW.opd rfl rfl (LO.copy rfl rfl (SrcAV.own rfl rfl (bytes_tk (l := putL S) rfl)) rfl (by rw [hH]; exact by_cp2 (k := 10) (x := hi8 S) (y := IntKind.u8.wrap S) (by omega)) ty25 ty25 ty5 (by decide) (by decide) (by simp; omega)) ?_
    refine RW.nil ⟨by kernel_rfl, ?_⟩
    rw [show 10 + 1 = 11 from rfl, ← hhs]
    have hlen : (hdS p).length = [69, 0].length + 2 + 8 + ((addrL p.s).length + (addrL p.d).length) := by rw [hsl, hhl]; rfl
    repeat (refine W.seq ?_)
    refine W.region 107 113 (by decide) rfl rfl ?_
    refine RW.opd rfl rfl (LO.move rfl rfl) ?_
    refine RW.opd rfl rfl (LO.fieldAddr rfl rfl ty27 rfl (by decide)) ?_
    refine RW.opd rfl rfl (LO.load rfl rfl rfl rfl ty25 rfl) ?_
    refine RW.opd rfl rfl (LO.append rfl rfl (SrcAV.isl rfl rfl (by simp [bytesC_len])) rfl (bytes_tk (l := hdS p) hlen) ty25 ty25 ty5 (by decide) (by simp; omega) (by simp; omega) (by decide)) ?_
    refine RW.opd rfl rfl (LO.assign rfl rfl) ?_
    refine RW.opd rfl rfl (LO.assign rfl rfl) ?_
    refine RW.nil ?_
    refine W.frz1 (t := 2) rfl rfl (by_tk2 (L := hdS p) (M := p.bs) (congrArg (· + p.bs.length) hlen)) (bytesC_pure _) ?_
    repeat (refine W.seq ?_)
    refine W.ret ⟨.inl rfl, _, mt, (RVs.cons (RV.tmp rfl) (RVs.cons (RV.tmp rfl) RVs.nil)), (by (repeat' (first | exact all_mt | refine all_up ?_ ?_)) <;> rfl), ?_⟩
    exact ⟨by rw [List.length_append, hlen]; rfl, rfl⟩
  · have heB : encB p = [96, 0, 0, 0] ++ putL (p.bs.length : Int) ++ [p.p, p.t] ++ (addrL p.s ++ addrL p.d) ++ p.bs := by unfold encB; rw [h6]; rfl
    have hal : (addrL p.s ++ addrL p.d).length = (addrL p.s).length + (addrL p.d).length := List.length_append
    have hT6 : Tk (bytesC ([96, 0, 0, 0] ++ putL (p.bs.length : Int) ++ [p.p, p.t]) ++ bytesC (addrL p.s ++ addrL p.d)) 0 (([96, 0, 0, 0].length + 2 + 2 + ((addrL p.s).length + (addrL p.d).length)) * 1) (bytesC ([96, 0, 0, 0] ++ putL (p.bs.length : Int) ++ [p.p, p.t] ++ (addrL p.s ++ addrL p.d))) := by_tk2 (by rw [hal]; rfl)
    rw [heB]
    repeat (refine W.seq ?_)
    refine W.region 0 3 (by decide) rfl rfl ?_
    refine RW.opd rfl rfl (LO.box rfl rfl rfl) ?_
    refine RW.opd rfl rfl (LO.assign rfl rfl) ?_
    refine RW.opd rfl rfl (LO.assign rfl rfl) ?_
    refine RW.nil ?_
    repeat (refine W.seq ?_)
    refine W.region 7 10 (by decide) rfl rfl ?_
    refine RW.opd rfl rfl (LO.load_agg rfl rfl rfl ty27 rfl (Tk.lit rfl)) ?_
    refine RW.opd rfl rfl (LO.call0 (fr := []) rfl rfl (hpv) fok15 (.cons rfl (.pure (pkC_pure p)) .nil) rfl) ?_
    refine RW.opd rfl rfl (LO.not rfl rfl) ?_
    refine RW.nil ?_
    repeat (refine W.seq ?_)
    refine W.cond_f rfl (by first | rfl | assumption) ?_
    refine W.skip ?_
    unfold adC at hbs hbd
    repeat (refine W.seq ?_)
    refine W.regionD 20 28 (by decide) rfl mixed rfl ?_
    refine RW.opd rfl rfl (LO.fieldAddr rfl rfl ty27 rfl (by decide)) ?_
    refine RW.opd rfl rfl (LO.load_agg rfl rfl rfl ty24 rfl (Tk.lit rfl)) ?_
    refine RW.opd rfl rfl (LO.callO (fr := []) rfl rfl (hbs) fok37 (.cons rfl (.pure rfl) .nil) (bytesC_pure _) (by decide)) ?_
    refine RW.opd rfl rfl (LO.fieldAddr rfl rfl ty27 rfl (by decide)) ?_
    refine RW.opd rfl rfl (LO.load_agg rfl rfl rfl ty24 rfl (Tk.lit rfl)) ?_
    refine RW.opd rfl rfl (LO.callO (fr := []) rfl rfl (hbd) fok37 (.cons rfl (.pure rfl) .nil) (bytesC_pure _) (by decide)) ?_
    refine RW.opd rfl rfl (LO.append rfl rfl (SrcAV.own rfl rfl (bytes_tk rfl)) rfl (bytes_tk rfl) ty25 ty25 ty5 (by decide) (by omega) (by omega) (by decide)) ?_
    refine RW.opd rfl rfl (LO.assign rfl rfl) ?_
    refine RW.nil ⟨by kernel_rfl, ?_⟩
    repeat (refine W.seq ?_)
    refine W.region 32 35 (by decide) rfl rfl ?_
    refine RW.opd rfl rfl (LO.fieldAddr rfl rfl ty27 rfl (by decide)) ?_
    refine RW.opd rfl rfl (LO.fieldAddr rfl rfl ty24 rfl (by decide)) ?_
    refine RW.opd rfl rfl (LO.load rfl rfl rfl rfl ty4 rfl) ?_
    refine RW.nil ?_
    repeat (refine W.seq ?_)
    refine W.cond_t rfl (by first | rfl | assumption) ?_
    repeat (refine W.seq ?_)
    refine W.regionD 39 53 (by decide) rfl mixed rfl ?_
    refine RW.opd rfl rfl (LO.buildSlice rfl ty25 ty5 (by decide) (by decide) (.cons rfl rfl rfl rfl (Sp.lit rfl) (.cons rfl rfl rfl rfl (Sp.lit rfl) (.cons rfl rfl rfl rfl (Sp.lit rfl) (.cons rfl rfl rfl rfl (Sp.lit rfl) .nil))))) ?_
    refine RW.opd rfl rfl (LO.fieldAddr rfl rfl ty27 rfl (by decide)) ?_
    refine RW.opd rfl rfl (LO.load rfl rfl rfl rfl ty25 rfl) ?_
    refine RW.opd rfl rfl (LO.len_isl rfl rfl rfl ty25) ?_
    refine RW.opd rfl rfl (LO.callS (fr := []) rfl rfl (put_any [96, 0, 0, 0] (p.bs.length : Int) (by decide)) fok38 (.osl rfl rfl (.cons rfl (.pure rfl) .nil)) rfl rfl rfl (List.cons_ne_nil _ _) (by decide) (by decide) (by decide)) ?_
    refine RW.opd rfl rfl (LO.fieldAddr rfl rfl ty27 rfl (by decide)) ?_
    refine RW.opd rfl rfl (LO.load rfl rfl rfl rfl ty3 rfl) ?_
    refine RW.opd rfl rfl (LO.conv_in rfl rfl ty3 ty5 ?_) ?_; (· (first | exact IntWalk.u8_in _ (by omega) | assumption))
    refine RW.opd rfl rfl (LO.fieldAddr rfl rfl ty27 rfl (by decide)) ?_
    refine RW.opd rfl rfl (LO.load rfl rfl rfl rfl ty3 rfl) ?_
    refine RW.opd rfl rfl (LO.conv_in rfl rfl ty3 ty5 ?_) ?_; (· (first | exact IntWalk.u8_in _ (by omega) | assumption))
    refine RW.opd rfl rfl (LO.buildSlice rfl ty25 ty5 (by decide) (by decide) (.cons rfl rfl rfl rfl (Sp.lit rfl) (.cons rfl rfl rfl rfl (Sp.lit rfl) .nil))) ?_
    refine RW.opd rfl rfl (LO.append rfl rfl (SrcAV.own rfl rfl (Tk.lit rfl)) rfl (bytes_tk (l := [96, 0, 0, 0] ++ putL (p.bs.length : Int)) rfl) ty25 ty25 ty5 (by decide) (by decide) (by decide) (by decide)) ?_
    refine RW.opd rfl rfl (LO.assign rfl rfl) ?_
    refine RW.nil ⟨by kernel_rfl, ?_⟩
    repeat (refine W.seq ?_)
    refine W.regionD 57 65 (by decide) rfl mixed rfl ?_
    refine RW.opd rfl rfl (LO.move rfl rfl) ?_
    refine RW.opd rfl rfl (LO.move rfl rfl) ?_
    refine RW.opd rfl rfl (LO.append rfl rfl (SrcAV.own rfl rfl (by_tk2 rfl)) rfl (by_tk2 (L := [96, 0, 0, 0] ++ putL (p.bs.length : Int)) (M := [p.p, p.t]) rfl) ty25 ty25 ty5 (by decide) (by simp; omega) (by simp; omega) (by decide)) ?_
    refine RW.opd rfl rfl (LO.fieldAddr rfl rfl ty27 rfl (by decide)) ?_
    refine RW.opd rfl rfl (LO.load rfl rfl rfl rfl ty25 rfl) ?_
    refine RW.opd rfl rfl (LO.append rfl rfl (SrcAV.isl rfl rfl (by simp [bytesC_len])) rfl hT6 ty25 ty25 ty5 (by decide) (by simp; omega) (by simp; omega) (by decide)) ?_
    refine RW.opd rfl rfl (LO.assign rfl rfl) ?_
    refine RW.opd rfl rfl (LO.assign rfl rfl) ?_
    refine RW.nil ⟨by kernel_rfl, ?_⟩
    refine W.frz1 (t := 2) rfl rfl (by_tk2 (L := [96, 0, 0, 0] ++ putL (p.bs.length : Int) ++ [p.p, p.t] ++ (addrL p.s ++ addrL p.d)) (M := p.bs) (by rw [List.length_append, hal]; rfl)) (bytesC_pure _) ?_
    repeat (refine W.seq ?_)
    refine W.ret ⟨.inl rfl, _, mt, (RVs.cons (RV.tmp rfl) (RVs.cons (RV.tmp rfl) RVs.nil)), (by (repeat' (first | exact all_mt | refine all_up ?_ ?_)) <;> rfl), ?_⟩
    exact ⟨by rw [List.length_append, List.length_append, hal]; rfl, rfl⟩
end Go.Proofs.Ytoijkcnefnmbjaa
