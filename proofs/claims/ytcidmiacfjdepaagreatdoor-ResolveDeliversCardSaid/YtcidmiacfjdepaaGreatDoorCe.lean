/-
  The bytes of a packet, by the document.
-/
import Derived.Test.YtcidmiacfjdepaaGreatDoorCd
import Derived.Test.YtcidmiacfjdepaaGreatDoorMab
namespace Go.Proofs.YtcidmiacfjdepaaGreatDoor
open Go.RowKit
theorem hi16 (s:Int):IntKind.u8.wrap (s.fdiv (2 ^ (min (8:Int).toNat IntKind.u16.bits)))=hi8 s:=by
  unfold hi8
  rw [show (2:Int) ^ (min (8:Int).toNat IntKind.u16.bits)=256 from by decide,show (2:Int) ^ (min (8:Int).toNat IntKind.i64.bits)=256 from by decide]
set_option maxHeartbeats 4000000 in
theorem renc_any (p:Pk) (s1:U64 p.s.hi) (s2:U64 p.s.lo) (d1:U64 p.d.hi) (d2:U64 p.d.lo) (hB:IsB p.bs):AFn Tryz.prog 45 0 [.agg (pkC p)] mt (ecV p) mt:=by
  refine AFn.eq Tryz.func45 rfl rfl (Nat.le_of_ble_eq_true rfl) ?_
  have hpv:=rpvalid_any p
  cases hv:vpk p
  · rw [hv] at hpv
    have he:ecV p=.tup [.isl [] 0,.base (.int .i64 1)]:=by unfold ecV encL2 encE;rw [hv];rfl
    rw [he]
    refine Wq (qW 0 3 rfl rfl rfl (qC rfl rfl rfl (qA rfl rfl (qA rfl rfl (Nl (Wq (Wq (qW 7 10 rfl rfl rfl (qG rfl rfl rfl ty74 rfl (Tl rfl) (Od rfl rfl (C0 (fr:=[]) rfl rfl (hpv) fok68 (.cons rfl (.pure (pkC_pure p)) .nil) rfl) (qO rfl rfl (Nl (Wt rfl rfl (Wq (qW 14 16 rfl rfl rfl (qA rfl rfl (qA rfl rfl (Nl (W.nilt (t:=2) rfl ?_)))))))))))))))))))
    refine W.ret ⟨.inl rfl,_,mt,(RVs.cons (RV.tmp rfl) (RVs.cons (RV.tmp rfl) RVs.nil)),(by (repeat' (first|exact all_mt|refine all_up ?_ ?_))<;>rfl),?_⟩
    exact ⟨rfl,rfl⟩
  rw [hv] at hpv
  obtain ⟨v1,v2,v3⟩:=vpk_parts hv
  have v4:=valid_parts hv
  have he:ecV p=.tup [.isl (bytesC (encB p)) (encB p).length,.base (.int .i64 0)]:=by unfold ecV encL2 encE;rw [hv];rfl
  rw [he]
  obtain ⟨_,_,hp4,hp5,hp6,hp7⟩:=v4
  have hbs:=bytesX_any p.s v1 s1 s2
  have hbd:=bytesX_any p.d v2 d1 d2
  have hls:=adl_len p.s
  have hld:=adl_len p.d
  cases h6:p.s.v6
  · have hhl:=hdB_len p
    have hhB:=hdB_isB hp5 hp6
    have hsb:=sumL_bd hhB
    have hsm:=sumX_any (hdB p) hhB (by omega)
    obtain ⟨S,hS⟩:∃ S,sumL (hdB p)=S:=⟨_,rfl⟩
    rw [hS] at hsb hsm
    have hhs:hdS p=((hdB p).set 10 (hi8 S)).set 11 (IntKind.u8.wrap S):=by unfold hdS;rw [hS]
    have hsl:(hdS p).length=(hdB p).length:=by rw [hhs];simp
    have heB:encB p=hdS p++p.bs:=by unfold encB;rw [h6];rfl
    have hH:bytesC ([69,0]++putL (20 + (p.bs.length:Int))++[0,0,64,0,p.t,p.p,0,0]++addrL p.s)++bytesC (addrL p.d)=bytesC (hdB p):=by rw [← bytesC_app,List.append_assoc];rfl
    have hHl:([69,0]++putL (20 + (p.bs.length:Int))++[0,0,64,0,p.t,p.p,0,0]++addrL p.s).length + (addrL p.d).length=12 + (addrL p.s).length + (addrL p.d).length:=by simp [putL];omega
    have hHT:Tk (bytesC ([69,0]++putL (20 + (p.bs.length:Int))++[0,0,64,0,p.t,p.p,0,0]++addrL p.s)++bytesC (addrL p.d)) 0 ((12 + (addrL p.s).length + (addrL p.d).length) * 1) (bytesC (hdB p)):=by rw [hH];exact bytes_tk (by rw [hhl];omega)
    have hadd:(p.bs.length:Int) + 20=20 + (p.bs.length:Int):=by omega
    rw [heB]
    refine Wq (qW 0 3 rfl rfl rfl (qC rfl rfl rfl (qA rfl rfl (qA rfl rfl (Nl (Wq (Wq (qW 7 10 rfl rfl rfl (qG rfl rfl rfl ty74 rfl (Tl rfl) (Od rfl rfl (C0 (fr:=[]) rfl rfl (hpv) fok68 (.cons rfl (.pure (pkC_pure p)) .nil) rfl) (qO rfl rfl (Nl (Wf rfl rfl (Wk (Wq (qW 20 24 rfl rfl rfl (qF rfl rfl ty74 rfl rfl (qL rfl rfl rfl rfl ty24 rfl (qH rfl rfl rfl ty24 (qA rfl rfl (Nl (Wq (Wq (qW 28 31 rfl rfl rfl (qF rfl rfl ty74 rfl rfl (qF rfl rfl ty42 rfl rfl (qL rfl rfl rfl rfl ty4 rfl (Nl (Wf rfl ‹_› (Wk (Wq (qW 70 73 rfl rfl rfl (qM rfl rfl (qZ rfl rfl rfl (by (first|exact IntWalk.i64_in _ (by omega)|assumption)) (qA rfl rfl (Nl ?_))))))))))))))))))))))))))))))))))))
    rw [hadd]
    have hT8:Tk (bytesC [69,0,hi8 (20 + (p.bs.length:Int)),IntKind.u8.wrap (20 + (p.bs.length:Int)),0,0,64,0,p.t,p.p,0,0]) 0 (12 * 1) (bytesC ([69,0]++putL (20 + (p.bs.length:Int))++[0,0,64,0,p.t,p.p,0,0])):=bytes_tk rfl
    unfold adC at hbs hbd
    refine Wq (Wd 77 94 (by decide) rfl mixed rfl (qM rfl rfl (Od rfl rfl (LO.shr rfl rfl rfl (by first|omega|decide|assumption|(simp;done)|(simp;omega))) (Od rfl rfl (LO.conv rfl rfl ty3 ty5) (qM rfl rfl (Od rfl rfl (LO.conv rfl rfl ty3 ty5) (qF rfl rfl ty74 rfl rfl (qL rfl rfl rfl rfl ty3 rfl (Od rfl rfl (Ci rfl rfl ty3 ty5 (by (first|exact IntWalk.u8_in _ (by omega)|assumption))) (qF rfl rfl ty74 rfl rfl (qL rfl rfl rfl rfl ty3 rfl (Od rfl rfl (Ci rfl rfl ty3 ty5 (by (first|exact IntWalk.u8_in _ (by omega)|assumption))) (Od rfl rfl (LO.buildSlice rfl ty24 ty5 (by decide) (by decide) (.cons rfl rfl rfl rfl (Sl rfl) (.cons rfl rfl rfl rfl (Sl rfl) (.cons rfl rfl rfl rfl (Sl rfl) (.cons rfl rfl rfl rfl (Sl rfl) (.cons rfl rfl rfl rfl (Sl rfl) (.cons rfl rfl rfl rfl (Sl rfl) (.cons rfl rfl rfl rfl (Sl rfl) (.cons rfl rfl rfl rfl (Sl rfl) (.cons rfl rfl rfl rfl (Sl rfl) (.cons rfl rfl rfl rfl (Sl rfl) (.cons rfl rfl rfl rfl (Sl rfl) (.cons rfl rfl rfl rfl (Sl rfl) .nil))))))))))))) (qF rfl rfl ty74 rfl rfl (qG rfl rfl rfl ty42 rfl (Tl rfl) (Od rfl rfl (LO.callO (fr:=[]) rfl rfl (hbs) fok44 (.cons rfl (.pure rfl) .nil) (bytesC_pure _) (by decide)) (Od rfl rfl (Lap rfl rfl (Sso rfl rfl (bytes_tk rfl)) rfl hT8 ty24 ty24 ty5 (by decide) (by omega) (by omega) (by decide)) (qA rfl rfl (Nl ⟨by kernel_rfl,(Wq (qW 98 104 rfl rfl rfl (qM rfl rfl (qF rfl rfl ty74 rfl rfl (qG rfl rfl rfl ty42 rfl (Tl rfl) (Od rfl rfl (LO.callO (fr:=[]) rfl rfl (hbd) fok44 (.cons rfl (.pure rfl) .nil) (bytesC_pure _) (by decide)) (Od rfl rfl (Lap rfl rfl (Sso rfl rfl (bytes_tk rfl)) rfl (by_tk2 (L:=[69,0]++putL (20 + (p.bs.length:Int))++[0,0,64,0,p.t,p.p,0,0]) (M:=addrL p.s) rfl) ty24 ty24 ty5 (by decide) (by omega) (by omega) (by decide)) (qA rfl rfl (Nl ?_)))))))))⟩)))))))))))))))))))
    rw [hhl,show 12 + ((addrL p.s).length + (addrL p.d).length)=12 + (addrL p.s).length + (addrL p.d).length from by omega] at hsm
    refine Wq (qW 108 111 rfl rfl rfl (qM rfl rfl (Od rfl rfl (LO.callB (fr:=[102]) rfl rfl (hsm) fok67 (.cons rfl (.one (.osl (by decide) rfl hHT (bytesC_pure _))) .nil)) (qA rfl rfl (Nl ?_)))))
    rw [hH]
    refine Wq (qW 115 126 rfl rfl rfl (qM rfl rfl (qM rfl rfl (qM rfl rfl (Od rfl rfl (LO.shr rfl rfl rfl (by first|omega|decide|assumption|(simp;done)|(simp;omega))) (Od rfl rfl (LO.conv rfl rfl ty127 ty5) (qM rfl rfl (Od rfl rfl (LO.conv rfl rfl ty127 ty5) (Od rfl rfl (Ia rfl rfl rfl rfl ty24 ty5 (by first|omega|decide|assumption|(simp;done)|(simp;omega))) (qS rfl rfl rfl rfl rfl ty5 rfl rfl (by_sp (l:=hdB p) (k:=10) (by omega)) (Od rfl rfl (Ia rfl rfl rfl rfl ty24 ty5 (by first|omega|decide|assumption|(simp;done)|(simp;omega))) (qS rfl rfl rfl rfl rfl ty5 rfl rfl (by_sp (l:=(hdB p).set 10 _) (k:=11) (by simp;omega)) (Nl ?_)))))))))))))
    rw [hi16,← hhs]
    have hlen:(hdS p).length=12 + (addrL p.s).length + (addrL p.d).length:=by rw [hsl,hhl];omega
    refine Wq (qW 130 136 rfl rfl rfl (qM rfl rfl (qF rfl rfl ty74 rfl rfl (qL rfl rfl rfl rfl ty24 rfl (Od rfl rfl (Lap rfl rfl (Ssi rfl rfl (by simp [bytesC_len])) rfl (bytes_tk (l:=hdS p) hlen) ty24 ty24 ty5 (by decide) (by omega) (by omega) (by decide)) (qA rfl rfl (qA rfl rfl (Nl (Wy (t:=2) rfl rfl (by_tk2 (L:=hdS p) (M:=p.bs) (congrArg (· + p.bs.length) hlen)) (bytesC_pure _) ?_)))))))))
    refine W.ret ⟨.inl rfl,_,mt,(RVs.cons (RV.tmp rfl) (RVs.cons (RV.tmp rfl) RVs.nil)),(by (repeat' (first|exact all_mt|refine all_up ?_ ?_))<;>rfl),?_⟩
    exact ⟨by rw [List.length_append,hlen];rfl,rfl⟩
  · have heB:encB p=[96,0,0,0]++putL (p.bs.length:Int)++[p.p,p.t]++addrL p.s++addrL p.d++p.bs:=by unfold encB;rw [h6,if_pos rfl];simp only [List.append_assoc]
    have hT0:Tk (bytesC ([96,0,0,0]++putL (p.bs.length:Int)++[p.p,p.t]++addrL p.s)) 0 ((8 + (addrL p.s).length) * 1) (bytesC ([96,0,0,0]++putL (p.bs.length:Int)++[p.p,p.t]++addrL p.s)):=bytes_tk (by simp [putL];omega)
    have hl0:([96,0,0,0]++putL (p.bs.length:Int)++[p.p,p.t]++addrL p.s).length + (addrL p.d).length=8 + (addrL p.s).length + (addrL p.d).length:=by simp [putL];omega
    have hl1:([96,0,0,0]++putL (p.bs.length:Int)++[p.p,p.t]++addrL p.s++addrL p.d).length + p.bs.length=8 + (addrL p.s).length + (addrL p.d).length + p.bs.length:=by simp [putL];omega
    rw [heB]
    refine Wq (qW 0 3 rfl rfl rfl (qC rfl rfl rfl (qA rfl rfl (qA rfl rfl (Nl (Wq (Wq (qW 7 10 rfl rfl rfl (qG rfl rfl rfl ty74 rfl (Tl rfl) (Od rfl rfl (C0 (fr:=[]) rfl rfl (hpv) fok68 (.cons rfl (.pure (pkC_pure p)) .nil) rfl) (qO rfl rfl (Nl (Wf rfl rfl (Wk (Wq (qW 20 24 rfl rfl rfl (qF rfl rfl ty74 rfl rfl (qL rfl rfl rfl rfl ty24 rfl (qH rfl rfl rfl ty24 (qA rfl rfl (Nl (Wq (Wq (qW 28 31 rfl rfl rfl (qF rfl rfl ty74 rfl rfl (qF rfl rfl ty42 rfl rfl (qL rfl rfl rfl rfl ty4 rfl (Nl (Wt rfl ‹_› ?_)))))))))))))))))))))))))))))
    have hT8:Tk (bytesC [96,0,0,0,hi8 (p.bs.length:Int),IntKind.u8.wrap (p.bs.length:Int),p.p,p.t]) 0 (8 * 1) (bytesC ([96,0,0,0]++putL (p.bs.length:Int)++[p.p,p.t])):=bytes_tk rfl
    unfold adC at hbs hbd
    refine Wq (Wd 35 52 (by decide) rfl mixed rfl (qM rfl rfl (Od rfl rfl (LO.shr rfl rfl rfl (by first|omega|decide|assumption|(simp;done)|(simp;omega))) (Od rfl rfl (LO.conv rfl rfl ty3 ty5) (qM rfl rfl (Od rfl rfl (LO.conv rfl rfl ty3 ty5) (qF rfl rfl ty74 rfl rfl (qL rfl rfl rfl rfl ty3 rfl (Od rfl rfl (Ci rfl rfl ty3 ty5 (by (first|exact IntWalk.u8_in _ (by omega)|assumption))) (qF rfl rfl ty74 rfl rfl (qL rfl rfl rfl rfl ty3 rfl (Od rfl rfl (Ci rfl rfl ty3 ty5 (by (first|exact IntWalk.u8_in _ (by omega)|assumption))) (Od rfl rfl (LO.buildSlice rfl ty24 ty5 (by decide) (by decide) (.cons rfl rfl rfl rfl (Sl rfl) (.cons rfl rfl rfl rfl (Sl rfl) (.cons rfl rfl rfl rfl (Sl rfl) (.cons rfl rfl rfl rfl (Sl rfl) (.cons rfl rfl rfl rfl (Sl rfl) (.cons rfl rfl rfl rfl (Sl rfl) (.cons rfl rfl rfl rfl (Sl rfl) (.cons rfl rfl rfl rfl (Sl rfl) .nil))))))))) (qF rfl rfl ty74 rfl rfl (qG rfl rfl rfl ty42 rfl (Tl rfl) (Od rfl rfl (LO.callO (fr:=[]) rfl rfl (hbs) fok44 (.cons rfl (.pure rfl) .nil) (bytesC_pure _) (by decide)) (Od rfl rfl (Lap rfl rfl (Sso rfl rfl (bytes_tk rfl)) rfl hT8 ty24 ty24 ty5 (by decide) (by omega) (by omega) (by decide)) (qA rfl rfl (Nl ⟨by kernel_rfl,(Wq (Wd 56 66 (by decide) rfl mixed rfl (qM rfl rfl (qF rfl rfl ty74 rfl rfl (qG rfl rfl rfl ty42 rfl (Tl rfl) (Od rfl rfl (LO.callO (fr:=[]) rfl rfl (hbd) fok44 (.cons rfl (.pure rfl) .nil) (bytesC_pure _) (by decide)) (Od rfl rfl (Lap rfl rfl (Sso rfl rfl (bytes_tk rfl)) rfl (by rw [← bytesC_app];exact hT0) ty24 ty24 ty5 (by decide) (by omega) (by omega) (by decide)) (qF rfl rfl ty74 rfl rfl (qL rfl rfl rfl rfl ty24 rfl (Od rfl rfl (Lap rfl rfl (Ssi rfl rfl (by simp [bytesC_len])) rfl (by_tk2 hl0) ty24 ty24 ty5 (by decide) (by omega) (by omega) (by decide)) (qA rfl rfl (qA rfl rfl (Nl ⟨by kernel_rfl,(Wy (t:=2) rfl rfl (by_tk2 hl1) (bytesC_pure _) ?_)⟩)))))))))))))⟩)))))))))))))))))))
    refine W.ret ⟨.inl rfl,_,mt,(RVs.cons (RV.tmp rfl) (RVs.cons (RV.tmp rfl) RVs.nil)),(by (repeat' (first|exact all_mt|refine all_up ?_ ?_))<;>rfl),?_⟩
    exact ⟨by rw [List.length_append,hl1];rfl,rfl⟩
end Go.Proofs.YtcidmiacfjdepaaGreatDoor
