/-
  The bytes of a packet, by the document.
-/
import Derived.Test.YtcidmiacfjdepaaDoorCd
import Derived.Test.YtcidmiacfjdepaaDoorMab
namespace Go.Proofs.YtcidmiacfjdepaaDoor
open Go.RowKit
theorem hi16 (s : Int) : IntKind.u8.wrap (s.fdiv (2 ^ (min (8 : Int).toNat IntKind.u16.bits))) = hi8 s := by
  unfold hi8
  rw [show (2 : Int) ^ (min (8 : Int).toNat IntKind.u16.bits) = 256 from by decide, show (2 : Int) ^ (min (8 : Int).toNat IntKind.i64.bits) = 256 from by decide]
set_option maxHeartbeats 4000000 in
theorem renc_any (p : Pk) (s1 : U64 p.s.hi) (s2 : U64 p.s.lo) (d1 : U64 p.d.hi) (d2 : U64 p.d.lo) (hB : IsB p.bs) : AFn Tryd.prog 52 0 [.agg (pkC p)] mt (ecV p) mt := by
  refine AFn.eq Tryd.func52 rfl rfl (Nat.le_of_ble_eq_true rfl) ?_
  have hpv := rpvalid_any p
  cases hv : vpk p
  · rw [hv] at hpv
    have he : ecV p = .tup [.isl [] 0, .base (.int .i64 1)] := by unfold ecV encL2 encE; rw [hv]; rfl
    rw [he]
    refine Wq (Wr 0 3 (by decide) rfl rfl (Od rfl rfl (Bx rfl rfl rfl) (Od rfl rfl (As rfl rfl) (Od rfl rfl (As rfl rfl) (Nl (Wq (Wq (Wr 7 10 (by decide) rfl rfl (Od rfl rfl (La rfl rfl rfl ty99 rfl (Tk.lit rfl)) (Od rfl rfl (C0 (fr := []) rfl rfl (hpv) fok80 (.cons rfl (.pure (pkC_pure p)) .nil) rfl) (Od rfl rfl (Nt rfl rfl) (Nl (Wt rfl (by first|rfl|assumption) (Wq (Wr 14 16 (by decide) rfl rfl (Od rfl rfl (As rfl rfl) (Od rfl rfl (As rfl rfl) (Nl (W.nilt (t := 2) rfl ?_)))))))))))))))))))
    refine W.ret ⟨.inl rfl, _, mt, (RVs.cons (RV.tmp rfl) (RVs.cons (RV.tmp rfl) RVs.nil)), (by (repeat' (first | exact all_mt | refine all_up ?_ ?_)) <;> rfl), ?_⟩
    exact ⟨rfl, rfl⟩
  rw [hv] at hpv
  obtain ⟨v1, v2, v3⟩ := vpk_parts hv
  have v4 := valid_parts hv
  have he : ecV p = .tup [.isl (bytesC (encB p)) (encB p).length, .base (.int .i64 0)] := by unfold ecV encL2 encE; rw [hv]; rfl
  rw [he]
  obtain ⟨_, _, hp4, hp5, hp6, hp7⟩ := v4
  have hbs := bytesX_any p.s v1 s1 s2
  have hbd := bytesX_any p.d v2 d1 d2
  have hls := adl_len p.s
  have hld := adl_len p.d
  cases h6 : p.s.v6
  · have hhl := hdB_len p
    have hhB := hdB_isB hp5 hp6
    have hsb := sumL_bd hhB
    have hsm := sumX_any (hdB p) hhB (by omega)
    obtain ⟨S, hS⟩ : ∃ S, sumL (hdB p) = S := ⟨_, rfl⟩
    rw [hS] at hsb hsm
    have hhs : hdS p = ((hdB p).set 10 (hi8 S)).set 11 (IntKind.u8.wrap S) := by unfold hdS; rw [hS]
    have hsl : (hdS p).length = (hdB p).length := by rw [hhs]; simp
    have heB : encB p = hdS p ++ p.bs := by unfold encB; rw [h6]; rfl
    have hH : bytesC ([69, 0] ++ putL (20 + (p.bs.length : Int)) ++ [0, 0, 64, 0, p.t, p.p, 0, 0] ++ addrL p.s) ++ bytesC (addrL p.d) = bytesC (hdB p) := by rw [← bytesC_app, List.append_assoc]; rfl
    have hHl : ([69, 0] ++ putL (20 + (p.bs.length : Int)) ++ [0, 0, 64, 0, p.t, p.p, 0, 0] ++ addrL p.s).length + (addrL p.d).length = 12 + (addrL p.s).length + (addrL p.d).length := by simp [putL]; omega
    have hHT : Tk (bytesC ([69, 0] ++ putL (20 + (p.bs.length : Int)) ++ [0, 0, 64, 0, p.t, p.p, 0, 0] ++ addrL p.s) ++ bytesC (addrL p.d)) 0 ((12 + (addrL p.s).length + (addrL p.d).length) * 1) (bytesC (hdB p)) := by rw [hH]; exact bytes_tk (by rw [hhl]; omega)
    have hadd : (p.bs.length : Int) + 20 = 20 + (p.bs.length : Int) := by omega
    rw [heB]
    refine Wq (Wr 0 3 (by decide) rfl rfl (Od rfl rfl (Bx rfl rfl rfl) (Od rfl rfl (As rfl rfl) (Od rfl rfl (As rfl rfl) (Nl (Wq (Wq (Wr 7 10 (by decide) rfl rfl (Od rfl rfl (La rfl rfl rfl ty99 rfl (Tk.lit rfl)) (Od rfl rfl (C0 (fr := []) rfl rfl (hpv) fok80 (.cons rfl (.pure (pkC_pure p)) .nil) rfl) (Od rfl rfl (Nt rfl rfl) (Nl (Wf rfl (by first|rfl|assumption) (Wk (Wq (Wr 20 24 (by decide) rfl rfl (Od rfl rfl (Fa rfl rfl ty99 rfl (by decide)) (Od rfl rfl (Ld rfl rfl rfl rfl ty46 rfl) (Od rfl rfl (Ln rfl rfl rfl ty46) (Od rfl rfl (As rfl rfl) (Nl (Wq (Wq (Wr 28 31 (by decide) rfl rfl (Od rfl rfl (Fa rfl rfl ty99 rfl (by decide)) (Od rfl rfl (Fa rfl rfl ty25 rfl (by decide)) (Od rfl rfl (Ld rfl rfl rfl rfl ty4 rfl) (Nl (Wf rfl (by first|rfl|assumption) (Wk (Wq (Wr 70 73 (by decide) rfl rfl (Od rfl rfl (Mv rfl rfl) (Od rfl rfl (Ad0 rfl rfl rfl (by (first | exact IntWalk.i64_in _ (by omega) | assumption))) (Od rfl rfl (As rfl rfl) (Nl ?_))))))))))))))))))))))))))))))))))))
    rw [hadd]
    have hT8 : Tk (bytesC [69, 0, hi8 (20 + (p.bs.length : Int)), IntKind.u8.wrap (20 + (p.bs.length : Int)), 0, 0, 64, 0, p.t, p.p, 0, 0]) 0 (12 * 1) (bytesC ([69, 0] ++ putL (20 + (p.bs.length : Int)) ++ [0, 0, 64, 0, p.t, p.p, 0, 0])) := bytes_tk rfl
    unfold adC at hbs hbd
    refine Wq (Wd 77 94 (by decide) rfl mixed rfl (Od rfl rfl (Mv rfl rfl) (Od rfl rfl (LO.shr rfl rfl rfl (by first|omega|decide|assumption|(simp;done)|(simp;omega))) (Od rfl rfl (LO.conv rfl rfl ty3 ty5) (Od rfl rfl (Mv rfl rfl) (Od rfl rfl (LO.conv rfl rfl ty3 ty5) (Od rfl rfl (Fa rfl rfl ty99 rfl (by decide)) (Od rfl rfl (Ld rfl rfl rfl rfl ty3 rfl) (Od rfl rfl (Ci rfl rfl ty3 ty5 (by (first | exact IntWalk.u8_in _ (by omega) | assumption))) (Od rfl rfl (Fa rfl rfl ty99 rfl (by decide)) (Od rfl rfl (Ld rfl rfl rfl rfl ty3 rfl) (Od rfl rfl (Ci rfl rfl ty3 ty5 (by (first | exact IntWalk.u8_in _ (by omega) | assumption))) (Od rfl rfl (LO.buildSlice rfl ty46 ty5 (by decide) (by decide) (.cons rfl rfl rfl rfl (Sp.lit rfl) (.cons rfl rfl rfl rfl (Sp.lit rfl) (.cons rfl rfl rfl rfl (Sp.lit rfl) (.cons rfl rfl rfl rfl (Sp.lit rfl) (.cons rfl rfl rfl rfl (Sp.lit rfl) (.cons rfl rfl rfl rfl (Sp.lit rfl) (.cons rfl rfl rfl rfl (Sp.lit rfl) (.cons rfl rfl rfl rfl (Sp.lit rfl) (.cons rfl rfl rfl rfl (Sp.lit rfl) (.cons rfl rfl rfl rfl (Sp.lit rfl) (.cons rfl rfl rfl rfl (Sp.lit rfl) (.cons rfl rfl rfl rfl (Sp.lit rfl) .nil))))))))))))) (Od rfl rfl (Fa rfl rfl ty99 rfl (by decide)) (Od rfl rfl (La rfl rfl rfl ty25 rfl (Tk.lit rfl)) (Od rfl rfl (LO.callO (fr := []) rfl rfl (hbs) fok30 (.cons rfl (.pure rfl) .nil) (bytesC_pure _) (by decide)) (Od rfl rfl (LO.append rfl rfl (SrcAV.own rfl rfl (bytes_tk rfl)) rfl hT8 ty46 ty46 ty5 (by decide) (by omega) (by omega) (by decide)) (Od rfl rfl (As rfl rfl) (Nl ⟨by kernel_rfl, (Wq (Wr 98 104 (by decide) rfl rfl (Od rfl rfl (Mv rfl rfl) (Od rfl rfl (Fa rfl rfl ty99 rfl (by decide)) (Od rfl rfl (La rfl rfl rfl ty25 rfl (Tk.lit rfl)) (Od rfl rfl (LO.callO (fr := []) rfl rfl (hbd) fok30 (.cons rfl (.pure rfl) .nil) (bytesC_pure _) (by decide)) (Od rfl rfl (LO.append rfl rfl (SrcAV.own rfl rfl (bytes_tk rfl)) rfl (by_tk2 (L := [69, 0] ++ putL (20 + (p.bs.length : Int)) ++ [0, 0, 64, 0, p.t, p.p, 0, 0]) (M := addrL p.s) rfl) ty46 ty46 ty5 (by decide) (by omega) (by omega) (by decide)) (Od rfl rfl (As rfl rfl) (Nl ?_)))))))))⟩)))))))))))))))))))
    rw [hhl, show 12 + ((addrL p.s).length + (addrL p.d).length) = 12 + (addrL p.s).length + (addrL p.d).length from by omega] at hsm
    refine Wq (Wr 108 111 (by decide) rfl rfl (Od rfl rfl (Mv rfl rfl) (Od rfl rfl (LO.callB (fr := [102]) rfl rfl (hsm) fok81 (.cons rfl (.one (.osl (by decide) rfl hHT (bytesC_pure _))) .nil)) (Od rfl rfl (As rfl rfl) (Nl ?_)))))
    rw [hH]
    refine Wq (Wr 115 126 (by decide) rfl rfl (Od rfl rfl (Mv rfl rfl) (Od rfl rfl (Mv rfl rfl) (Od rfl rfl (Mv rfl rfl) (Od rfl rfl (LO.shr rfl rfl rfl (by first|omega|decide|assumption|(simp;done)|(simp;omega))) (Od rfl rfl (LO.conv rfl rfl ty145 ty5) (Od rfl rfl (Mv rfl rfl) (Od rfl rfl (LO.conv rfl rfl ty145 ty5) (Od rfl rfl (Ia rfl rfl rfl rfl ty46 ty5 (by first|omega|decide|assumption|(simp;done)|(simp;omega))) (On rfl rfl (Sr rfl rfl rfl rfl rfl ty5 rfl (by decide) (by_sp (l := hdB p) (k := 10) (by omega))) (Od rfl rfl (Ia rfl rfl rfl rfl ty46 ty5 (by first|omega|decide|assumption|(simp;done)|(simp;omega))) (On rfl rfl (Sr rfl rfl rfl rfl rfl ty5 rfl (by decide) (by_sp (l := (hdB p).set 10 _) (k := 11) (by simp; omega))) (Nl ?_)))))))))))))
    rw [hi16, ← hhs]
    have hlen : (hdS p).length = 12 + (addrL p.s).length + (addrL p.d).length := by rw [hsl, hhl]; omega
    refine Wq (Wr 130 136 (by decide) rfl rfl (Od rfl rfl (Mv rfl rfl) (Od rfl rfl (Fa rfl rfl ty99 rfl (by decide)) (Od rfl rfl (Ld rfl rfl rfl rfl ty46 rfl) (Od rfl rfl (LO.append rfl rfl (SrcAV.isl rfl rfl (by simp [bytesC_len])) rfl (bytes_tk (l := hdS p) hlen) ty46 ty46 ty5 (by decide) (by omega) (by omega) (by decide)) (Od rfl rfl (As rfl rfl) (Od rfl rfl (As rfl rfl) (Nl (W.frz1 (t := 2) rfl rfl (by_tk2 (L := hdS p) (M := p.bs) (congrArg (· + p.bs.length) hlen)) (bytesC_pure _) ?_)))))))))
    refine W.ret ⟨.inl rfl, _, mt, (RVs.cons (RV.tmp rfl) (RVs.cons (RV.tmp rfl) RVs.nil)), (by (repeat' (first | exact all_mt | refine all_up ?_ ?_)) <;> rfl), ?_⟩
    exact ⟨by rw [List.length_append, hlen]; rfl, rfl⟩
  · have heB : encB p = [96, 0, 0, 0] ++ putL (p.bs.length : Int) ++ [p.p, p.t] ++ addrL p.s ++ addrL p.d ++ p.bs := by unfold encB; rw [h6, if_pos rfl]; simp only [List.append_assoc]
    have hT0 : Tk (bytesC ([96, 0, 0, 0] ++ putL (p.bs.length : Int) ++ [p.p, p.t] ++ addrL p.s)) 0 ((8 + (addrL p.s).length) * 1) (bytesC ([96, 0, 0, 0] ++ putL (p.bs.length : Int) ++ [p.p, p.t] ++ addrL p.s)) := bytes_tk (by simp [putL]; omega)
    have hl0 : ([96, 0, 0, 0] ++ putL (p.bs.length : Int) ++ [p.p, p.t] ++ addrL p.s).length + (addrL p.d).length = 8 + (addrL p.s).length + (addrL p.d).length := by simp [putL]; omega
    have hl1 : ([96, 0, 0, 0] ++ putL (p.bs.length : Int) ++ [p.p, p.t] ++ addrL p.s ++ addrL p.d).length + p.bs.length = 8 + (addrL p.s).length + (addrL p.d).length + p.bs.length := by simp [putL]; omega
    rw [heB]
    refine Wq (Wr 0 3 (by decide) rfl rfl (Od rfl rfl (Bx rfl rfl rfl) (Od rfl rfl (As rfl rfl) (Od rfl rfl (As rfl rfl) (Nl (Wq (Wq (Wr 7 10 (by decide) rfl rfl (Od rfl rfl (La rfl rfl rfl ty99 rfl (Tk.lit rfl)) (Od rfl rfl (C0 (fr := []) rfl rfl (hpv) fok80 (.cons rfl (.pure (pkC_pure p)) .nil) rfl) (Od rfl rfl (Nt rfl rfl) (Nl (Wf rfl (by first|rfl|assumption) (Wk (Wq (Wr 20 24 (by decide) rfl rfl (Od rfl rfl (Fa rfl rfl ty99 rfl (by decide)) (Od rfl rfl (Ld rfl rfl rfl rfl ty46 rfl) (Od rfl rfl (Ln rfl rfl rfl ty46) (Od rfl rfl (As rfl rfl) (Nl (Wq (Wq (Wr 28 31 (by decide) rfl rfl (Od rfl rfl (Fa rfl rfl ty99 rfl (by decide)) (Od rfl rfl (Fa rfl rfl ty25 rfl (by decide)) (Od rfl rfl (Ld rfl rfl rfl rfl ty4 rfl) (Nl (Wt rfl (by first|rfl|assumption) ?_)))))))))))))))))))))))))))))
    have hT8 : Tk (bytesC [96, 0, 0, 0, hi8 (p.bs.length : Int), IntKind.u8.wrap (p.bs.length : Int), p.p, p.t]) 0 (8 * 1) (bytesC ([96, 0, 0, 0] ++ putL (p.bs.length : Int) ++ [p.p, p.t])) := bytes_tk rfl
    unfold adC at hbs hbd
    refine Wq (Wd 35 52 (by decide) rfl mixed rfl (Od rfl rfl (Mv rfl rfl) (Od rfl rfl (LO.shr rfl rfl rfl (by first|omega|decide|assumption|(simp;done)|(simp;omega))) (Od rfl rfl (LO.conv rfl rfl ty3 ty5) (Od rfl rfl (Mv rfl rfl) (Od rfl rfl (LO.conv rfl rfl ty3 ty5) (Od rfl rfl (Fa rfl rfl ty99 rfl (by decide)) (Od rfl rfl (Ld rfl rfl rfl rfl ty3 rfl) (Od rfl rfl (Ci rfl rfl ty3 ty5 (by (first | exact IntWalk.u8_in _ (by omega) | assumption))) (Od rfl rfl (Fa rfl rfl ty99 rfl (by decide)) (Od rfl rfl (Ld rfl rfl rfl rfl ty3 rfl) (Od rfl rfl (Ci rfl rfl ty3 ty5 (by (first | exact IntWalk.u8_in _ (by omega) | assumption))) (Od rfl rfl (LO.buildSlice rfl ty46 ty5 (by decide) (by decide) (.cons rfl rfl rfl rfl (Sp.lit rfl) (.cons rfl rfl rfl rfl (Sp.lit rfl) (.cons rfl rfl rfl rfl (Sp.lit rfl) (.cons rfl rfl rfl rfl (Sp.lit rfl) (.cons rfl rfl rfl rfl (Sp.lit rfl) (.cons rfl rfl rfl rfl (Sp.lit rfl) (.cons rfl rfl rfl rfl (Sp.lit rfl) (.cons rfl rfl rfl rfl (Sp.lit rfl) .nil))))))))) (Od rfl rfl (Fa rfl rfl ty99 rfl (by decide)) (Od rfl rfl (La rfl rfl rfl ty25 rfl (Tk.lit rfl)) (Od rfl rfl (LO.callO (fr := []) rfl rfl (hbs) fok30 (.cons rfl (.pure rfl) .nil) (bytesC_pure _) (by decide)) (Od rfl rfl (LO.append rfl rfl (SrcAV.own rfl rfl (bytes_tk rfl)) rfl hT8 ty46 ty46 ty5 (by decide) (by omega) (by omega) (by decide)) (Od rfl rfl (As rfl rfl) (Nl ⟨by kernel_rfl, (Wq (Wd 56 66 (by decide) rfl mixed rfl (Od rfl rfl (Mv rfl rfl) (Od rfl rfl (Fa rfl rfl ty99 rfl (by decide)) (Od rfl rfl (La rfl rfl rfl ty25 rfl (Tk.lit rfl)) (Od rfl rfl (LO.callO (fr := []) rfl rfl (hbd) fok30 (.cons rfl (.pure rfl) .nil) (bytesC_pure _) (by decide)) (Od rfl rfl (LO.append rfl rfl (SrcAV.own rfl rfl (bytes_tk rfl)) rfl (by rw [← bytesC_app]; exact hT0) ty46 ty46 ty5 (by decide) (by omega) (by omega) (by decide)) (Od rfl rfl (Fa rfl rfl ty99 rfl (by decide)) (Od rfl rfl (Ld rfl rfl rfl rfl ty46 rfl) (Od rfl rfl (LO.append rfl rfl (SrcAV.isl rfl rfl (by simp [bytesC_len])) rfl (by_tk2 hl0) ty46 ty46 ty5 (by decide) (by omega) (by omega) (by decide)) (Od rfl rfl (As rfl rfl) (Od rfl rfl (As rfl rfl) (Nl ⟨by kernel_rfl, (W.frz1 (t := 2) rfl rfl (by_tk2 hl1) (bytesC_pure _) ?_)⟩)))))))))))))⟩)))))))))))))))))))
    refine W.ret ⟨.inl rfl, _, mt, (RVs.cons (RV.tmp rfl) (RVs.cons (RV.tmp rfl) RVs.nil)), (by (repeat' (first | exact all_mt | refine all_up ?_ ?_)) <;> rfl), ?_⟩
    exact ⟨by rw [List.length_append, hl1]; rfl, rfl⟩
end Go.Proofs.YtcidmiacfjdepaaDoor
