/-
  Reading a packet: the document. The bytes of a packet.
-/
import Derived.Test.YtcidmiacfjdepaaGreatDoorCb
import Derived.Test.YtcidmiacfjdepaaGreatDoorMab
namespace Go.Proofs.YtcidmiacfjdepaaGreatDoor
open Go.RowKit
theorem pk_lit2 (p:Pk):pkC p=[.base (.bool p.s.v6),.base (.int .u64 p.s.hi),.base (.int .u64 p.s.lo),.base (.bool p.d.v6),.base (.int .u64 p.d.hi),.base (.int .u64 p.d.lo),.base (.int .i64 p.p),.base (.int .i64 p.t),.isl (bytesC p.bs) p.bs.length]:=rfl
theorem dcE_sh (b:List Int) (h0:b.length≠0):(gB b 0 / 16=4∧dcP b=p4 b∧dcE b=fin (p4 b) (c4 b))∨(gB b 0 / 16=6∧dcP b=p6 b∧dcE b=fin (p6 b) (c6 b))∨((gB b 0 / 16 != 4)=true∧(gB b 0 / 16 != 6)=true∧dcE b=5):=by
  unfold dcP dcE
  by_cases c1:gB b 0 / 16=4
  · exact .inl ⟨c1,if_pos c1,by rw [if_neg h0,if_pos c1]⟩
  · by_cases c2:gB b 0 / 16=6
    · exact .inr (.inl ⟨c2,if_neg c1,by rw [if_neg h0,if_neg c1,if_pos c2]⟩)
    · exact .inr (.inr ⟨by simpa using c1,by simpa using c2,by rw [if_neg h0,if_neg c1,if_neg c2]⟩)
set_option maxHeartbeats 8000000 in
theorem rdec_any (b:List Int) (hB:IsB b) (hl:b.length≤1000000):AFn Tryz.prog 30 0 [.isl (bytesC b) b.length] mt (rdV (dcP b) (dcE b)) mt:=by
  refine AFn.eq Tryz.func30 rfl rfl (Nat.le_of_ble_eq_true rfl) ?_
  have b0:=hB.at 0
  have hsh:=sh4 _ b0
  by_cases h0:b.length=0
  · have g1:((b.length:Int) == 0)=true:=by rw [h0];rfl
    have hd:dcE b=4:=by unfold dcE;rw [if_pos h0]
    rw [hd,rdV_bad (by decide)]
    refine Wq (qW 0 2 rfl rfl rfl (qB rfl ty74 (qA rfl rfl (Nl (Wq (Wb (Wq (qW 6 10 rfl rfl rfl (qM rfl rfl (qH rfl rfl rfl ty24 (qE rfl rfl rfl (qA rfl rfl (Nl (Wt rfl ‹_› (Wq (qW 14 17 rfl rfl rfl (Od rfl rfl (Bs rfl ty74 .nil) (qS rfl rfl rfl rfl rfl ty74 rfl rfl (Sl rfl) (qA rfl rfl (Nl (W.nilc (q:=0) (j:=8) rfl rfl (Sl rfl) ?_)))))))))))))))))))))
    refine W.ret ⟨.inl rfl,_,mt,(RVs.cons (RV.cellA rfl rfl ty74 rfl (Tk.lit rfl)) (RVs.cons (RV.tmp rfl) RVs.nil)),(by (repeat' (first|exact all_mt|refine all_up ?_ ?_))<;>rfl),?_⟩
    exact ⟨rfl,rfl⟩
  have g1:((b.length:Int) == 0)=false:=by rw [beq_eq_false_iff_ne];omega
  have hat0:=by_at (l:=b) (k:=0) (by omega)
  rcases dcE_sh b h0 with ⟨hv,hd1,hd2⟩|⟨hv,hd1,hd2⟩|⟨hv1,hv2,hd2⟩
  rotate_right
  · rw [hd2,rdV_bad (by decide)]
    refine Wq (qW 0 2 rfl rfl rfl (qB rfl ty74 (qA rfl rfl (Nl (Wq (Wb (Wq (qW 6 10 rfl rfl rfl (qM rfl rfl (qH rfl rfl rfl ty24 (qE rfl rfl rfl (qA rfl rfl (Nl (Wf rfl ‹_› (Wq (qW 21 34 rfl rfl rfl (qM rfl rfl (qJ rfl rfl rfl rfl rfl ty24 ty5 (by first|omega|decide|assumption|(simp;done)|(simp;omega)) (Od rfl rfl (Li rfl rfl hat0 ty5 rfl) (Od rfl rfl (LO.shr rfl rfl rfl (by first|omega|decide|assumption|(simp;done)|(simp;omega))) ?_))))))))))))))))))))
    rw [hsh]
    refine qN rfl rfl rfl (qM rfl rfl (Gd rfl rfl rfl ‹_› rfl (Mv rfl rfl) (Gd rfl rfl rfl ‹_› rfl (Ii rfl rfl rfl rfl rfl ty24 ty5 (by first|omega|decide|assumption|(simp;done)|(simp;omega))) (Gd rfl rfl rfl ‹_› rfl (Li rfl rfl hat0 ty5 rfl) (Gd rfl rfl rfl ‹_› rfl (LO.shr rfl rfl rfl (by first|omega|decide|assumption|(simp;done)|(simp;omega))) ?_)))))
    rw [hsh]
    refine Gd rfl rfl rfl ‹_› rfl (Ne0 rfl rfl rfl) (qT rfl rfl ‹_› rfl (qA rfl rfl (Nl (Wt rfl ‹_› (Wq (qW 38 41 rfl rfl rfl (Od rfl rfl (Bs rfl ty74 .nil) (qS rfl rfl rfl rfl rfl ty74 rfl rfl (Sl rfl) (qA rfl rfl (Nl (W.nilc (q:=0) (j:=8) rfl rfl (Sl rfl) ?_)))))))))))
    refine W.ret ⟨.inl rfl,_,mt,(RVs.cons (RV.cellA rfl rfl ty74 rfl (Tk.lit rfl)) (RVs.cons (RV.tmp rfl) RVs.nil)),(by (repeat' (first|exact all_mt|refine all_up ?_ ?_))<;>rfl),?_⟩
    exact ⟨rfl,rfl⟩
  · rw [hv] at hsh
    rw [hd1,hd2]
    refine Wq (qW 0 2 rfl rfl rfl (qB rfl ty74 (qA rfl rfl (Nl (Wq (Wb (Wq (qW 6 10 rfl rfl rfl (qM rfl rfl (qH rfl rfl rfl ty24 (qE rfl rfl rfl (qA rfl rfl (Nl (Wf rfl ‹_› (Wq (qW 21 34 rfl rfl rfl (qM rfl rfl (qJ rfl rfl rfl rfl rfl ty24 ty5 (by first|omega|decide|assumption|(simp;done)|(simp;omega)) (Od rfl rfl (Li rfl rfl hat0 ty5 rfl) (Od rfl rfl (LO.shr rfl rfl rfl (by first|omega|decide|assumption|(simp;done)|(simp;omega))) ?_))))))))))))))))))))
    rw [hsh]
    refine qN rfl rfl rfl (qM rfl rfl (Sd rfl rfl rfl rfl rfl (Sd rfl rfl rfl rfl rfl (Sd rfl rfl rfl rfl rfl (Sd rfl rfl rfl rfl rfl (Sd rfl rfl rfl rfl rfl (qP rfl rfl rfl rfl (qA rfl rfl (Nl (Wf rfl (rfl) (Wq (qW 45 51 rfl rfl rfl (qM rfl rfl (qJ rfl rfl rfl rfl rfl ty24 ty5 (by first|omega|decide|assumption|(simp;done)|(simp;omega)) (Od rfl rfl (Li rfl rfl hat0 ty5 rfl) (Od rfl rfl (LO.shr rfl rfl rfl (by first|omega|decide|assumption|(simp;done)|(simp;omega))) ?_))))))))))))))))
    rw [hsh]
    refine qE rfl rfl rfl (qA rfl rfl (Nl (Wf rfl (rfl) ?_)))
    rcases c4_cases b with ⟨k1,hc⟩|hrest
    · have g2:decide ((b.length:Int) < 20)=true:=decide_eq_true (by omega)
      have hfe:fin (p4 b) (c4 b)=4:=by rw [hc];rfl
      rw [hfe,rdV_bad (by decide)]
      refine Wq (qW 151 155 rfl rfl rfl (qM rfl rfl (qH rfl rfl rfl ty24 (qK rfl rfl rfl (qA rfl rfl (Nl (Wt rfl ‹_› (Wq (qW 159 162 rfl rfl rfl (Od rfl rfl (Bs rfl ty74 .nil) (qS rfl rfl rfl rfl rfl ty74 rfl rfl (Sl rfl) (qA rfl rfl (Nl (W.nilc (q:=0) (j:=8) rfl rfl (Sl rfl) ?_))))))))))))))
      refine W.ret ⟨.inl rfl,_,mt,(RVs.cons (RV.cellA rfl rfl ty74 rfl (Tk.lit rfl)) (RVs.cons (RV.tmp rfl) RVs.nil)),(by (repeat' (first|exact all_mt|refine all_up ?_ ?_))<;>rfl),?_⟩
      exact ⟨rfl,rfl⟩
    have h20:20≤b.length:=by
      rcases hrest with h|h|h|h
      · exact h.1
      · exact h.1
      · exact h.1
      · exact h.1.1
    have g2:decide ((b.length:Int) < 20)=false:=decide_eq_false (by omega)
    have b2:=hB.at 2
    have b3:=hB.at 3
    have b6:=hB.at 6
    have b7:=hB.at 7
    have b8:=hB.at 8
    have b9:=hB.at 9
    have hand:=u8_and15 b0
    have hat2:=by_at (l:=b) (k:=2) (by omega)
    have hat3:=by_at (l:=b) (k:=3) (by omega)
    have hat6:=by_at (l:=b) (k:=6) (by omega)
    have hat7:=by_at (l:=b) (k:=7) (by omega)
    have hat8:=by_at (l:=b) (k:=8) (by omega)
    have hat9:=by_at (l:=b) (k:=9) (by omega)
    have hs2:=shl8 _ b2
    have hs6:=shl8 _ b6
    have hw0:gB b 2 * 256 + gB b 3=wh4 b:=rfl
    have hh0:4 * (gB b 0 % 16)=hd4 b:=by unfold hd4;omega
    have hwb:0≤wh4 b∧wh4 b≤65535:=by unfold wh4;omega
    have hhb:0≤hd4 b∧hd4 b≤60:=by unfold hd4;omega
    obtain ⟨fr,hfr⟩:∃ fr,gB b 6 * 256 + gB b 7=fr:=⟨_,rfl⟩
    have hfb:0≤fr∧fr≤65535:=by omega
    rw [hfr] at hrest
    have hmask:=i64_and14 hfb
    obtain ⟨h,hhn⟩:∃ h:Nat,hd4 b=(h:Int):=⟨(hd4 b).toNat,by omega⟩
    obtain ⟨w,hwn⟩:∃ w:Nat,wh4 b=(w:Int):=⟨(wh4 b).toNat,by omega⟩
    have hp4:p4 b=⟨fbA false ((b.drop 12).take 4),fbA false ((b.drop 16).take 4),gB b 9,gB b 8,(b.drop h).take (w - h)⟩:=by unfold p4;rw [hhn,hwn];rfl
    rw [hhn,hwn] at hrest
    refine Wq (qW 151 155 rfl rfl rfl (qM rfl rfl (qH rfl rfl rfl ty24 (qK rfl rfl rfl (qA rfl rfl (Nl (Wf rfl ‹_› (Wk (Wq (Wd 166 184 (by decide) rfl mixed rfl (qM rfl rfl (qJ rfl rfl rfl rfl rfl ty24 ty5 (by first|omega|decide|assumption|(simp;done)|(simp;omega)) (Od rfl rfl (Li rfl rfl hat0 ty5 rfl) (Od rfl rfl (LO.and rfl rfl rfl) ?_))))))))))))))
    rw [hand]
    refine Od rfl rfl (Ci rfl rfl ty5 ty3 (by (first|exact IntWalk.i64_in _ (by omega)|assumption))) (Od rfl rfl (LO.mul_in rfl rfl rfl (by (first|exact IntWalk.i64_in _ (by omega)|assumption))) ?_)
    rw [hh0,hhn]
    refine qM rfl rfl (qJ rfl rfl rfl rfl rfl ty24 ty5 (by first|omega|decide|assumption|(simp;done)|(simp;omega)) (Od rfl rfl (Li rfl rfl hat2 ty5 rfl) (Od rfl rfl (Ci rfl rfl ty5 ty3 (by (first|exact IntWalk.i64_in _ (by omega)|assumption))) (Od rfl rfl (LO.shl rfl rfl rfl (by first|omega|decide|assumption|(simp;done)|(simp;omega))) ?_))))
    rw [hs2]
    refine qM rfl rfl (qJ rfl rfl rfl rfl rfl ty24 ty5 (by first|omega|decide|assumption|(simp;done)|(simp;omega)) (Od rfl rfl (Li rfl rfl hat3 ty5 rfl) (Od rfl rfl (Ci rfl rfl ty5 ty3 (by (first|exact IntWalk.i64_in _ (by omega)|assumption))) (qZ rfl rfl rfl (by (first|exact IntWalk.i64_in _ (by omega)|assumption)) ?_))))
    rw [hw0,hwn]
    refine qA rfl rfl (qA rfl rfl (Nl ⟨by kernel_rfl,(Wq (Wb ?_))⟩))
    rcases hrest with ⟨_,k1,hc⟩|⟨_,k1,k2,hc⟩|⟨_,k1,k2,k3,hc⟩|⟨⟨_,k1,k2,k3⟩,hrest⟩
    · have g2:decide ((h:Int) < 20)=true:=decide_eq_true (by omega)
      have hfe:fin (p4 b) (c4 b)=5:=by rw [hc];rfl
      rw [hfe,rdV_bad (by decide)]
      refine Wq (qW 188 196 rfl rfl rfl (qM rfl rfl (qK rfl rfl rfl (qM rfl rfl (Sd rfl rfl rfl ‹_› rfl (Sd rfl rfl rfl ‹_› rfl (Sd rfl rfl rfl ‹_› rfl (qT rfl rfl ‹_› rfl (qA rfl rfl (Nl (Wt rfl rfl (Wq (qW 200 203 rfl rfl rfl (Od rfl rfl (Bs rfl ty74 .nil) (qS rfl rfl rfl rfl rfl ty74 rfl rfl (Sl rfl) (qA rfl rfl (Nl (W.nilc (q:=0) (j:=8) rfl rfl (Sl rfl) ?_))))))))))))))))))
      refine W.ret ⟨.inl rfl,_,mt,(RVs.cons (RV.cellA rfl rfl ty74 rfl (Tk.lit rfl)) (RVs.cons (RV.tmp rfl) RVs.nil)),(by (repeat' (first|exact all_mt|refine all_up ?_ ?_))<;>rfl),?_⟩
      exact ⟨rfl,rfl⟩
    · have g2:decide ((h:Int) < 20)=false:=decide_eq_false (by omega)
      have g3:decide ((w:Int) < (h:Int))=true:=decide_eq_true (by omega)
      have hfe:fin (p4 b) (c4 b)=5:=by rw [hc];rfl
      rw [hfe,rdV_bad (by decide)]
      refine Wq (qW 188 196 rfl rfl rfl (qM rfl rfl (qK rfl rfl rfl (qM rfl rfl (Gd rfl rfl rfl ‹_› rfl (Mv rfl rfl) (Gd rfl rfl rfl ‹_› rfl (Mv rfl rfl) (Gd rfl rfl rfl ‹_› rfl (Ls rfl rfl rfl) (qP rfl rfl ‹_› rfl (qA rfl rfl (Nl (Wt rfl ‹_› (Wq (qW 200 203 rfl rfl rfl (Od rfl rfl (Bs rfl ty74 .nil) (qS rfl rfl rfl rfl rfl ty74 rfl rfl (Sl rfl) (qA rfl rfl (Nl (W.nilc (q:=0) (j:=8) rfl rfl (Sl rfl) ?_))))))))))))))))))
      refine W.ret ⟨.inl rfl,_,mt,(RVs.cons (RV.cellA rfl rfl ty74 rfl (Tk.lit rfl)) (RVs.cons (RV.tmp rfl) RVs.nil)),(by (repeat' (first|exact all_mt|refine all_up ?_ ?_))<;>rfl),?_⟩
      exact ⟨rfl,rfl⟩
    · have g2:decide ((h:Int) < 20)=false:=decide_eq_false (by omega)
      have g3:decide ((w:Int) < (h:Int))=false:=decide_eq_false (by omega)
      have g4:decide ((b.length:Int) < (w:Int))=true:=decide_eq_true (by omega)
      have hfe:fin (p4 b) (c4 b)=4:=by rw [hc];rfl
      rw [hfe,rdV_bad (by decide)]
      refine Wq (qW 188 196 rfl rfl rfl (qM rfl rfl (qK rfl rfl rfl (qM rfl rfl (Gd rfl rfl rfl ‹_› rfl (Mv rfl rfl) (Gd rfl rfl rfl ‹_› rfl (Mv rfl rfl) (Gd rfl rfl rfl ‹_› rfl (Ls rfl rfl rfl) (qP rfl rfl ‹_› rfl (qA rfl rfl (Nl (Wf rfl ‹_› (Wq (qW 207 212 rfl rfl rfl (qM rfl rfl (qH rfl rfl rfl ty24 (qM rfl rfl (qK rfl rfl rfl (qA rfl rfl (Nl (Wt rfl ‹_› (Wq (qW 216 219 rfl rfl rfl (Od rfl rfl (Bs rfl ty74 .nil) (qS rfl rfl rfl rfl rfl ty74 rfl rfl (Sl rfl) (qA rfl rfl (Nl (W.nilc (q:=0) (j:=8) rfl rfl (Sl rfl) ?_)))))))))))))))))))))))))))
      refine W.ret ⟨.inl rfl,_,mt,(RVs.cons (RV.cellA rfl rfl ty74 rfl (Tk.lit rfl)) (RVs.cons (RV.tmp rfl) RVs.nil)),(by (repeat' (first|exact all_mt|refine all_up ?_ ?_))<;>rfl),?_⟩
      exact ⟨rfl,rfl⟩
    have g2:decide ((h:Int) < 20)=false:=decide_eq_false (by omega)
    have g3:decide ((w:Int) < (h:Int))=false:=decide_eq_false (by omega)
    have g4:decide ((b.length:Int) < (w:Int))=false:=decide_eq_false (by omega)
    have hsum:=sumX_any (b.take h) (hB.take h) (by rw [List.length_take];omega)
    have hth:(b.take h).length=h:=by rw [List.length_take];exact Nat.min_eq_left (by omega)
    rw [hth] at hsum
    rw [Int.toNat_natCast] at hrest
    refine Wq (qW 188 196 rfl rfl rfl (qM rfl rfl (qK rfl rfl rfl (qM rfl rfl (Gd rfl rfl rfl ‹_› rfl (Mv rfl rfl) (Gd rfl rfl rfl ‹_› rfl (Mv rfl rfl) (Gd rfl rfl rfl ‹_› rfl (Ls rfl rfl rfl) (qP rfl rfl ‹_› rfl (qA rfl rfl (Nl (Wf rfl ‹_› (Wq (qW 207 212 rfl rfl rfl (qM rfl rfl (qH rfl rfl rfl ty24 (qM rfl rfl (qK rfl rfl rfl (qA rfl rfl (Nl (Wf rfl ‹_› (Wq (qW 223 229 rfl rfl rfl (qM rfl rfl (qM rfl rfl (Od rfl rfl (Lsi rfl rfl rfl Bnd.no (Ba rfl rfl) (by first|omega|decide|assumption|(simp;done)|(simp;omega)) (by first|omega|decide|assumption|(simp;done)|(simp;omega)) ty24 ty5 (by_take (by omega))) (Od rfl rfl (C0 (fr:=[]) rfl rfl (hsum) fok67 (.cons rfl (.pure rfl) .nil) rfl) (qN rfl rfl rfl (qA rfl rfl (Nl ?_)))))))))))))))))))))))))))))
    rcases hrest with ⟨k4,hc⟩|⟨k4,hrest⟩
    · have hfe:fin (p4 b) (c4 b)=6:=by rw [hc];rfl
      rw [hfe,rdV_bad (by decide)]
      refine Wt rfl ‹_› (Wq (qW 233 236 rfl rfl rfl (Od rfl rfl (Bs rfl ty74 .nil) (qS rfl rfl rfl rfl rfl ty74 rfl rfl (Sl rfl) (qA rfl rfl (Nl (W.nilc (q:=0) (j:=8) rfl rfl (Sl rfl) ?_)))))))
      refine W.ret ⟨.inl rfl,_,mt,(RVs.cons (RV.cellA rfl rfl ty74 rfl (Tk.lit rfl)) (RVs.cons (RV.tmp rfl) RVs.nil)),(by (repeat' (first|exact all_mt|refine all_up ?_ ?_))<;>rfl),?_⟩
      exact ⟨rfl,rfl⟩
    refine Wf rfl ‹_› (Wq (Wd 240 253 (by decide) rfl mixed rfl (qM rfl rfl (qJ rfl rfl rfl rfl rfl ty24 ty5 (by first|omega|decide|assumption|(simp;done)|(simp;omega)) (Od rfl rfl (Li rfl rfl hat6 ty5 rfl) (Od rfl rfl (Ci rfl rfl ty5 ty3 (by (first|exact IntWalk.i64_in _ (by omega)|assumption))) (Od rfl rfl (LO.shl rfl rfl rfl (by first|omega|decide|assumption|(simp;done)|(simp;omega))) ?_)))))))
    rw [hs6]
    refine qM rfl rfl (qJ rfl rfl rfl rfl rfl ty24 ty5 (by first|omega|decide|assumption|(simp;done)|(simp;omega)) (Od rfl rfl (Li rfl rfl hat7 ty5 rfl) (Od rfl rfl (Ci rfl rfl ty5 ty3 (by (first|exact IntWalk.i64_in _ (by omega)|assumption))) (qZ rfl rfl rfl (by (first|exact IntWalk.i64_in _ (by omega)|assumption)) ?_))))
    rw [hfr]
    refine Od rfl rfl (LO.and rfl rfl rfl) ?_
    rw [hmask]
    refine qN rfl rfl rfl (qA rfl rfl (Nl ⟨by kernel_rfl,?_⟩))
    rcases hrest with ⟨k5,hc⟩|⟨k5,hc⟩
    · have hfe:fin (p4 b) (c4 b)=5:=by rw [hc];rfl
      rw [hfe,rdV_bad (by decide)]
      refine Wt rfl ‹_› (Wq (qW 257 260 rfl rfl rfl (Od rfl rfl (Bs rfl ty74 .nil) (qS rfl rfl rfl rfl rfl ty74 rfl rfl (Sl rfl) (qA rfl rfl (Nl (W.nilc (q:=0) (j:=8) rfl rfl (Sl rfl) ?_)))))))
      refine W.ret ⟨.inl rfl,_,mt,(RVs.cons (RV.cellA rfl rfl ty74 rfl (Tk.lit rfl)) (RVs.cons (RV.tmp rfl) RVs.nil)),(by (repeat' (first|exact all_mt|refine all_up ?_ ?_))<;>rfl),?_⟩
      exact ⟨rfl,rfl⟩
    have hl1:((b.drop 12).take (16 - 12)).length=4:=by rw [List.length_take,List.length_drop];omega
    have hl2:((b.drop 16).take (20 - 16)).length=4:=by rw [List.length_take,List.length_drop];omega
    have hf1:=fromX_any ((b.drop 12).take (16 - 12)) ((hB.drop 12).take _) (.inl hl1)
    have hf2:=fromX_any ((b.drop 16).take (20 - 16)) ((hB.drop 16).take _) (.inl hl2)
    rw [hl1] at hf1
    rw [hl2] at hf2
    have hdl:((b.drop h).take (w - h)).length=w - h:=by rw [List.length_take,List.length_drop];omega
    have hend:=ended_any (p4 b)
    rw [hp4,pk_lit2] at hend
    dsimp only at hend
    rw [hdl] at hend
    rw [hc,hp4]
    unfold rdV at hend ⊢
    obtain ⟨E,hE⟩:∃ E,fin ⟨fbA false ((b.drop 12).take 4),fbA false ((b.drop 16).take 4),gB b 9,gB b 8,(b.drop h).take (w - h)⟩ 0=E:=⟨_,rfl⟩
    rw [hE] at hend ⊢
    obtain ⟨Q,hQ⟩:∃ Q,(if E=0 then (⟨fbA false ((b.drop 12).take 4),fbA false ((b.drop 16).take 4),gB b 9,gB b 8,(b.drop h).take (w - h)⟩:Pk) else zPk)=Q:=⟨_,rfl⟩
    rw [hQ] at hend ⊢
    unfold adC at hf1 hf2
    refine Wf rfl ‹_› (Wk (Wq (qW 264 273 rfl rfl rfl (qM rfl rfl (Od rfl rfl (Lsi rfl rfl rfl (Ba rfl rfl) (Ba rfl rfl) (by first|omega|decide|assumption|(simp;done)|(simp;omega)) (by first|omega|decide|assumption|(simp;done)|(simp;omega)) ty24 ty5 (by_part (l:=b) (k:=12) (m:=16) (by decide) (by omega))) (Od rfl rfl (C0 (fr:=[]) rfl rfl (hf1) fok65 (.cons rfl (.pure rfl) .nil) rfl) (qM rfl rfl (qX rfl rfl rfl (qX rfl rfl rfl (qB rfl ty42 (qS rfl rfl rfl rfl rfl ty42 rfl rfl (Sl rfl) (qA rfl rfl (Nl (Wq (qW 277 286 rfl rfl rfl (qM rfl rfl (Od rfl rfl (Lsi rfl rfl rfl (Ba rfl rfl) (Ba rfl rfl) (by first|omega|decide|assumption|(simp;done)|(simp;omega)) (by first|omega|decide|assumption|(simp;done)|(simp;omega)) ty24 ty5 (by_part (l:=b) (k:=16) (m:=20) (by decide) (by omega))) (Od rfl rfl (C0 (fr:=[]) rfl rfl (hf2) fok65 (.cons rfl (.pure rfl) .nil) rfl) (qM rfl rfl (qX rfl rfl rfl (qX rfl rfl rfl (qB rfl ty42 (qS rfl rfl rfl rfl rfl ty42 rfl rfl (Sl rfl) (qA rfl rfl (Nl (Wq (Wd 290 311 (by decide) rfl mixed rfl (qG rfl rfl rfl ty42 rfl (Tl rfl) (qG rfl rfl rfl ty42 rfl (Tl rfl) (qM rfl rfl (qJ rfl rfl rfl rfl rfl ty24 ty5 (by first|omega|decide|assumption|(simp;done)|(simp;omega)) (Od rfl rfl (Li rfl rfl hat9 ty5 rfl) (Od rfl rfl (Ci rfl rfl ty5 ty3 (by (first|exact IntWalk.i64_in _ (by omega)|assumption))) (qM rfl rfl (qJ rfl rfl rfl rfl rfl ty24 ty5 (by first|omega|decide|assumption|(simp;done)|(simp;omega)) (Od rfl rfl (Li rfl rfl hat8 ty5 rfl) (Od rfl rfl (Ci rfl rfl ty5 ty3 (by (first|exact IntWalk.i64_in _ (by omega)|assumption))) (qM rfl rfl (qM rfl rfl (qM rfl rfl (Od rfl rfl (Lsi rfl rfl rfl (Ba rfl rfl) (Ba rfl rfl) (by first|omega|decide|assumption|(simp;done)|(simp;omega)) (by first|omega|decide|assumption|(simp;done)|(simp;omega)) ty24 ty5 (by_part (l:=b) (k:=h) (m:=w) (by omega) (by omega))) (Od rfl rfl (Lan rfl rfl (Ssi rfl rfl (by rw [bytesC_len,hdl];omega)) ty24 ty24 ty5 (by decide) (by omega) (by omega) (by decide)) (Od rfl rfl (Bs rfl ty74 (.cons rfl rfl rfl rfl (Sl rfl) (.cons rfl rfl rfl rfl (Sl rfl) (.cons rfl rfl rfl rfl (Sl rfl) (.cons rfl rfl rfl rfl (Sl rfl) (.cons rfl rfl rfl rfl (Sl rfl) .nil)))))) (Od rfl rfl (C0 (fr:=[304]) rfl rfl (hend) fok66 (.cons rfl (.agg (.cons (.same rfl) (.cons (.same rfl) (.cons (.same rfl) (.cons (.same rfl) (.cons (.same rfl) (.cons (.same rfl) (.cons (.same rfl) (.cons (.same rfl) (.cons (.osl (by decide) rfl (bytes_tk hdl) (bytesC_pure _)) .nil)))))))))) .nil) rfl) (qX rfl rfl rfl (qX rfl rfl rfl (qS rfl rfl rfl rfl rfl ty74 rfl rfl (Sl rfl) (qA rfl rfl (Nl ⟨by kernel_rfl,?_⟩)))))))))))))))))))))))))))))))))))))))))))))))))
    refine W.ret ⟨.inl rfl,_,mt,(RVs.cons (RV.cellA rfl rfl ty74 rfl (pk_tk Q)) (RVs.cons (RV.tmp rfl) RVs.nil)),(by (repeat' (first|exact all_mt|refine all_up ?_ ?_))<;>rfl),?_⟩
    exact ⟨rfl,rfl⟩
  · rw [hv] at hsh
    rw [hd1,hd2]
    have b4:=hB.at 4
    have b5:=hB.at 5
    have hs4:=shl8 _ b4
    have hw0:gB b 4 * 256 + gB b 5=wh6 b:=rfl
    have hwb:0≤wh6 b∧wh6 b≤65535:=by unfold wh6;omega
    obtain ⟨w,hwn⟩:∃ w:Nat,wh6 b=(w:Int):=⟨(wh6 b).toNat,by omega⟩
    have hp6:p6 b=⟨fbA true ((b.drop 8).take 16),fbA true ((b.drop 24).take 16),gB b 6,gB b 7,(b.drop 40).take w⟩:=by unfold p6;rw [hwn];rfl
    have hc6:=c6_cases b
    rw [hwn] at hw0 hwb hc6
    refine Wq (qW 0 2 rfl rfl rfl (qB rfl ty74 (qA rfl rfl (Nl (Wq (Wb (Wq (qW 6 10 rfl rfl rfl (qM rfl rfl (qH rfl rfl rfl ty24 (qE rfl rfl rfl (qA rfl rfl (Nl (Wf rfl ‹_› (Wq (qW 21 34 rfl rfl rfl (qM rfl rfl (qJ rfl rfl rfl rfl rfl ty24 ty5 (by first|omega|decide|assumption|(simp;done)|(simp;omega)) (Od rfl rfl (Li rfl rfl hat0 ty5 rfl) (Od rfl rfl (LO.shr rfl rfl rfl (by first|omega|decide|assumption|(simp;done)|(simp;omega))) ?_))))))))))))))))))))
    rw [hsh]
    refine qN rfl rfl rfl (qM rfl rfl (Gd rfl rfl rfl rfl rfl (Mv rfl rfl) (Gd rfl rfl rfl rfl rfl (Ii rfl rfl rfl rfl rfl ty24 ty5 (by first|omega|decide|assumption|(simp;done)|(simp;omega))) (Gd rfl rfl rfl rfl rfl (Li rfl rfl hat0 ty5 rfl) (Gd rfl rfl rfl rfl rfl (LO.shr rfl rfl rfl (by first|omega|decide|assumption|(simp;done)|(simp;omega))) ?_)))))
    rw [hsh]
    refine Gd rfl rfl rfl rfl rfl (Ne0 rfl rfl rfl) (qT rfl rfl rfl rfl (qA rfl rfl (Nl (Wf rfl (rfl) (Wq (qW 45 51 rfl rfl rfl (qM rfl rfl (qJ rfl rfl rfl rfl rfl ty24 ty5 (by first|omega|decide|assumption|(simp;done)|(simp;omega)) (Od rfl rfl (Li rfl rfl hat0 ty5 rfl) (Od rfl rfl (LO.shr rfl rfl rfl (by first|omega|decide|assumption|(simp;done)|(simp;omega))) ?_))))))))))
    rw [hsh]
    refine qE rfl rfl rfl (qA rfl rfl (Nl (Wt rfl (rfl) ?_)))
    rcases hc6 with ⟨k1,hc⟩|⟨k1,k2,hc⟩|⟨k1,k2,hc⟩
    · have g2:decide ((b.length:Int) < 40)=true:=decide_eq_true (by omega)
      have hfe:fin (p6 b) (c6 b)=4:=by rw [hc];rfl
      rw [hfe,rdV_bad (by decide)]
      refine Wq (Wq (Wd 55 74 (by decide) rfl mixed rfl (qM rfl rfl (qH rfl rfl rfl ty24 (qK rfl rfl rfl (qM rfl rfl (Sd rfl rfl rfl ‹_› rfl (Sd rfl rfl rfl ‹_› rfl (Sd rfl rfl rfl ‹_› rfl (Sd rfl rfl rfl ‹_› rfl (Sd rfl rfl rfl ‹_› rfl (Sd rfl rfl rfl ‹_› rfl (Sd rfl rfl rfl ‹_› rfl (Sd rfl rfl rfl ‹_› rfl (Sd rfl rfl rfl ‹_› rfl (Sd rfl rfl rfl ‹_› rfl (Sd rfl rfl rfl ‹_› rfl (Sd rfl rfl rfl ‹_› rfl (Sd rfl rfl rfl ‹_› rfl (Sd rfl rfl rfl ‹_› rfl (qT rfl rfl ‹_› rfl (Nl ⟨by kernel_rfl,(Wt rfl rfl (Wq (qW 78 81 rfl rfl rfl (Od rfl rfl (Bs rfl ty74 .nil) (qS rfl rfl rfl rfl rfl ty74 rfl rfl (Sl rfl) (qA rfl rfl (Nl (W.nilc (q:=0) (j:=8) rfl rfl (Sl rfl) ?_))))))))⟩))))))))))))))))))))))
      refine W.ret ⟨.inl rfl,_,mt,(RVs.cons (RV.cellA rfl rfl ty74 rfl (Tk.lit rfl)) (RVs.cons (RV.tmp rfl) RVs.nil)),(by (repeat' (first|exact all_mt|refine all_up ?_ ?_))<;>rfl),?_⟩
      exact ⟨rfl,rfl⟩
    · have g2:decide ((b.length:Int) < 40)=false:=decide_eq_false (by omega)
      have g3:decide ((b.length:Int) < 40 + gB b 4 * 256 + gB b 5)=true:=decide_eq_true (by omega)
      have hat4:=by_at (l:=b) (k:=4) (by omega)
      have hat5:=by_at (l:=b) (k:=5) (by omega)
      have hfe:fin (p6 b) (c6 b)=4:=by rw [hc];rfl
      rw [hfe,rdV_bad (by decide)]
      refine Wq (Wq (Wd 55 74 (by decide) rfl mixed rfl (qM rfl rfl (qH rfl rfl rfl ty24 (qK rfl rfl rfl (qM rfl rfl (Gd rfl rfl rfl ‹_› rfl (Mv rfl rfl) (Gd rfl rfl rfl ‹_› rfl (Ln rfl rfl rfl ty24) (Gd rfl rfl rfl ‹_› rfl (Mv rfl rfl) (Gd rfl rfl rfl ‹_› rfl (Ii rfl rfl rfl rfl rfl ty24 ty5 (by first|omega|decide|assumption|(simp;done)|(simp;omega))) (Gd rfl rfl rfl ‹_› rfl (Li rfl rfl hat4 ty5 rfl) (Gd rfl rfl rfl ‹_› rfl (Ci rfl rfl ty5 ty3 (by (first|exact IntWalk.i64_in _ (by omega)|assumption))) (Gd rfl rfl rfl ‹_› rfl (LO.shl rfl rfl rfl (by first|omega|decide|assumption|(simp;done)|(simp;omega))) ?_)))))))))))))
      rw [hs4]
      refine Gd rfl rfl rfl ‹_› rfl (Ad0 rfl rfl rfl (by (first|exact IntWalk.i64_in _ (by omega)|assumption))) (Gd rfl rfl rfl ‹_› rfl (Mv rfl rfl) (Gd rfl rfl rfl ‹_› rfl (Ii rfl rfl rfl rfl rfl ty24 ty5 (by first|omega|decide|assumption|(simp;done)|(simp;omega))) (Gd rfl rfl rfl ‹_› rfl (Li rfl rfl hat5 ty5 rfl) (Gd rfl rfl rfl ‹_› rfl (Ci rfl rfl ty5 ty3 (by (first|exact IntWalk.i64_in _ (by omega)|assumption))) (Gd rfl rfl rfl ‹_› rfl (Ad0 rfl rfl rfl (by (first|exact IntWalk.i64_in _ (by omega)|assumption))) (Gd rfl rfl rfl ‹_› rfl (Ls rfl rfl rfl) (qP rfl rfl ‹_› rfl (Nl ⟨by kernel_rfl,(Wt rfl ‹_› (Wq (qW 78 81 rfl rfl rfl (Od rfl rfl (Bs rfl ty74 .nil) (qS rfl rfl rfl rfl rfl ty74 rfl rfl (Sl rfl) (qA rfl rfl (Nl (W.nilc (q:=0) (j:=8) rfl rfl (Sl rfl) ?_))))))))⟩))))))))
      refine W.ret ⟨.inl rfl,_,mt,(RVs.cons (RV.cellA rfl rfl ty74 rfl (Tk.lit rfl)) (RVs.cons (RV.tmp rfl) RVs.nil)),(by (repeat' (first|exact all_mt|refine all_up ?_ ?_))<;>rfl),?_⟩
      exact ⟨rfl,rfl⟩
    · have g2:decide ((b.length:Int) < 40)=false:=decide_eq_false (by omega)
      have g3:decide ((b.length:Int) < 40 + gB b 4 * 256 + gB b 5)=false:=decide_eq_false (by omega)
      have hat4:=by_at (l:=b) (k:=4) (by omega)
      have hat5:=by_at (l:=b) (k:=5) (by omega)
      have hat6:=by_at (l:=b) (k:=6) (by omega)
      have hat7:=by_at (l:=b) (k:=7) (by omega)
      have b6:=hB.at 6
      have b7:=hB.at 7
      have hl1:((b.drop 8).take (24 - 8)).length=16:=by rw [List.length_take,List.length_drop];omega
      have hl2:((b.drop 24).take (40 - 24)).length=16:=by rw [List.length_take,List.length_drop];omega
      have hf1:=fromX_any ((b.drop 8).take (24 - 8)) ((hB.drop 8).take _) (.inr hl1)
      have hf2:=fromX_any ((b.drop 24).take (40 - 24)) ((hB.drop 24).take _) (.inr hl2)
      rw [hl1] at hf1
      rw [hl2] at hf2
      have hw4:40 + w - 40=w:=by omega
      have hdl:((b.drop 40).take (40 + w - 40)).length=40 + w - 40:=by rw [List.length_take,List.length_drop];omega
      have hend:=ended_any (p6 b)
      rw [hp6,pk_lit2] at hend
      dsimp only at hend
      rw [← hw4,hdl] at hend
      rw [hc,hp6,← hw4]
      unfold rdV at hend ⊢
      obtain ⟨E,hE⟩:∃ E,fin ⟨fbA true ((b.drop 8).take 16),fbA true ((b.drop 24).take 16),gB b 6,gB b 7,(b.drop 40).take (40 + w - 40)⟩ 0=E:=⟨_,rfl⟩
      rw [hE] at hend ⊢
      obtain ⟨Q,hQ⟩:∃ Q,(if E=0 then (⟨fbA true ((b.drop 8).take 16),fbA true ((b.drop 24).take 16),gB b 6,gB b 7,(b.drop 40).take (40 + w - 40)⟩:Pk) else zPk)=Q:=⟨_,rfl⟩
      rw [hQ] at hend ⊢
      unfold adC at hf1 hf2
      refine Wq (Wq (Wd 55 74 (by decide) rfl mixed rfl (qM rfl rfl (qH rfl rfl rfl ty24 (qK rfl rfl rfl (qM rfl rfl (Gd rfl rfl rfl ‹_› rfl (Mv rfl rfl) (Gd rfl rfl rfl ‹_› rfl (Ln rfl rfl rfl ty24) (Gd rfl rfl rfl ‹_› rfl (Mv rfl rfl) (Gd rfl rfl rfl ‹_› rfl (Ii rfl rfl rfl rfl rfl ty24 ty5 (by first|omega|decide|assumption|(simp;done)|(simp;omega))) (Gd rfl rfl rfl ‹_› rfl (Li rfl rfl hat4 ty5 rfl) (Gd rfl rfl rfl ‹_› rfl (Ci rfl rfl ty5 ty3 (by (first|exact IntWalk.i64_in _ (by omega)|assumption))) (Gd rfl rfl rfl ‹_› rfl (LO.shl rfl rfl rfl (by first|omega|decide|assumption|(simp;done)|(simp;omega))) ?_)))))))))))))
      rw [hs4]
      refine Gd rfl rfl rfl ‹_› rfl (Ad0 rfl rfl rfl (by (first|exact IntWalk.i64_in _ (by omega)|assumption))) (Gd rfl rfl rfl ‹_› rfl (Mv rfl rfl) (Gd rfl rfl rfl ‹_› rfl (Ii rfl rfl rfl rfl rfl ty24 ty5 (by first|omega|decide|assumption|(simp;done)|(simp;omega))) (Gd rfl rfl rfl ‹_› rfl (Li rfl rfl hat5 ty5 rfl) (Gd rfl rfl rfl ‹_› rfl (Ci rfl rfl ty5 ty3 (by (first|exact IntWalk.i64_in _ (by omega)|assumption))) (Gd rfl rfl rfl ‹_› rfl (Ad0 rfl rfl rfl (by (first|exact IntWalk.i64_in _ (by omega)|assumption))) (Gd rfl rfl rfl ‹_› rfl (Ls rfl rfl rfl) (qP rfl rfl ‹_› rfl (Nl ⟨by kernel_rfl,(Wf rfl ‹_› (Wk (Wq (Wd 85 96 (by decide) rfl mixed rfl (qM rfl rfl (qJ rfl rfl rfl rfl rfl ty24 ty5 (by first|omega|decide|assumption|(simp;done)|(simp;omega)) (Od rfl rfl (Li rfl rfl hat4 ty5 rfl) (Od rfl rfl (Ci rfl rfl ty5 ty3 (by (first|exact IntWalk.i64_in _ (by omega)|assumption))) (Od rfl rfl (LO.shl rfl rfl rfl (by first|omega|decide|assumption|(simp;done)|(simp;omega))) ?_)))))))))⟩))))))))
      rw [hs4]
      refine qM rfl rfl (qJ rfl rfl rfl rfl rfl ty24 ty5 (by first|omega|decide|assumption|(simp;done)|(simp;omega)) (Od rfl rfl (Li rfl rfl hat5 ty5 rfl) (Od rfl rfl (Ci rfl rfl ty5 ty3 (by (first|exact IntWalk.i64_in _ (by omega)|assumption))) (qZ rfl rfl rfl (by (first|exact IntWalk.i64_in _ (by omega)|assumption)) ?_))))
      rw [hw0]
      refine qA rfl rfl (Nl ⟨by kernel_rfl,(Wq (qW 100 109 rfl rfl rfl (qM rfl rfl (Od rfl rfl (Lsi rfl rfl rfl (Ba rfl rfl) (Ba rfl rfl) (by first|omega|decide|assumption|(simp;done)|(simp;omega)) (by first|omega|decide|assumption|(simp;done)|(simp;omega)) ty24 ty5 (by_part (l:=b) (k:=8) (m:=24) (by decide) (by omega))) (Od rfl rfl (C0 (fr:=[]) rfl rfl (hf1) fok65 (.cons rfl (.pure rfl) .nil) rfl) (qM rfl rfl (qX rfl rfl rfl (qX rfl rfl rfl (qB rfl ty42 (qS rfl rfl rfl rfl rfl ty42 rfl rfl (Sl rfl) (qA rfl rfl (Nl (Wq (qW 113 122 rfl rfl rfl (qM rfl rfl (Od rfl rfl (Lsi rfl rfl rfl (Ba rfl rfl) (Ba rfl rfl) (by first|omega|decide|assumption|(simp;done)|(simp;omega)) (by first|omega|decide|assumption|(simp;done)|(simp;omega)) ty24 ty5 (by_part (l:=b) (k:=24) (m:=40) (by decide) (by omega))) (Od rfl rfl (C0 (fr:=[]) rfl rfl (hf2) fok65 (.cons rfl (.pure rfl) .nil) rfl) (qM rfl rfl (qX rfl rfl rfl (qX rfl rfl rfl (qB rfl ty42 (qS rfl rfl rfl rfl rfl ty42 rfl rfl (Sl rfl) (qA rfl rfl (Nl ?_))))))))))))))))))))))))⟩)
      have h40w:(40:Int) + (w:Int)=((40 + w:Nat):Int):=by omega
      refine Wq (Wd 126 147 (by decide) rfl mixed rfl (qG rfl rfl rfl ty42 rfl (Tl rfl) (qG rfl rfl rfl ty42 rfl (Tl rfl) (qM rfl rfl (qJ rfl rfl rfl rfl rfl ty24 ty5 (by first|omega|decide|assumption|(simp;done)|(simp;omega)) (Od rfl rfl (Li rfl rfl hat6 ty5 rfl) (Od rfl rfl (Ci rfl rfl ty5 ty3 (by (first|exact IntWalk.i64_in _ (by omega)|assumption))) (qM rfl rfl (qJ rfl rfl rfl rfl rfl ty24 ty5 (by first|omega|decide|assumption|(simp;done)|(simp;omega)) (Od rfl rfl (Li rfl rfl hat7 ty5 rfl) (Od rfl rfl (Ci rfl rfl ty5 ty3 (by (first|exact IntWalk.i64_in _ (by omega)|assumption))) (qM rfl rfl (qM rfl rfl (qZ rfl rfl rfl (by (first|exact IntWalk.i64_in _ (by omega)|assumption)) (Od rfl rfl (Lsi rfl rfl rfl (Ba rfl rfl) (Ba rfl rfl) (by first|omega|decide|assumption|(simp;done)|(simp;omega)) (by first|omega|decide|assumption|(simp;done)|(simp;omega)) ty24 ty5 (by_part (l:=b) (k:=40) (m:=40 + w) (by omega) (by omega))) (Od rfl rfl (Lan rfl rfl (Ssi rfl rfl (by rw [bytesC_len,hdl];omega)) ty24 ty24 ty5 (by decide) (by omega) (by omega) (by decide)) (Od rfl rfl (Bs rfl ty74 (.cons rfl rfl rfl rfl (Sl rfl) (.cons rfl rfl rfl rfl (Sl rfl) (.cons rfl rfl rfl rfl (Sl rfl) (.cons rfl rfl rfl rfl (Sl rfl) (.cons rfl rfl rfl rfl (Sl rfl) .nil)))))) (Od rfl rfl (C0 (fr:=[140]) rfl rfl (hend) fok66 (.cons rfl (.agg (.cons (.same rfl) (.cons (.same rfl) (.cons (.same rfl) (.cons (.same rfl) (.cons (.same rfl) (.cons (.same rfl) (.cons (.same rfl) (.cons (.same rfl) (.cons (.osl (by decide) rfl (bytes_tk hdl) (bytesC_pure _)) .nil)))))))))) .nil) rfl) (qX rfl rfl rfl (qX rfl rfl rfl (qS rfl rfl rfl rfl rfl ty74 rfl rfl (Sl rfl) (qA rfl rfl (Nl ⟨by kernel_rfl,?_⟩)))))))))))))))))))))))
      refine W.ret ⟨.inl rfl,_,mt,(RVs.cons (RV.cellA rfl rfl ty74 rfl (pk_tk Q)) (RVs.cons (RV.tmp rfl) RVs.nil)),(by (repeat' (first|exact all_mt|refine all_up ?_ ?_))<;>rfl),?_⟩
      exact ⟨rfl,rfl⟩
end Go.Proofs.YtcidmiacfjdepaaGreatDoor
namespace Go.Proofs.YtcidmiacfjdepaaGreatDoor
open Go.RowKit
theorem by_tk2 {L M:List Int} {n:Nat} (h:L.length + M.length=n):Tk (bytesC L++bytesC M) 0 (n * 1) (bytesC (L++M)):=by
  rw [← bytesC_app];exact bytes_tk (by simp [h])
def hdB (p:Pk):List Int:=[69,0]++putL (20 + (p.bs.length:Int))++[0,0,64,0,p.t,p.p,0,0]++(addrL p.s++addrL p.d)
def hdS (p:Pk):List Int:=((hdB p).set 10 (hi8 (sumL (hdB p)))).set 11 (IntKind.u8.wrap (sumL (hdB p)))
def encB (p:Pk):List Int:=if p.s.v6 then [96,0,0,0]++putL (p.bs.length:Int)++[p.p,p.t]++(addrL p.s++addrL p.d)++p.bs else hdS p++p.bs
def encL2 (p:Pk):List Int:=if vpk p then encB p else []
def encE (p:Pk):Int:=if vpk p then 0 else 1
def ecV (p:Pk):AV:=.tup [.isl (bytesC (encL2 p)) (encL2 p).length,.base (.int .i64 (encE p))]
theorem hdB_len (p:Pk):(hdB p).length=12 + ((addrL p.s).length + (addrL p.d).length):=by simp [hdB,putL];omega
theorem hdB_isB {p:Pk} (h1:0≤p.p∧p.p≤255) (h2:0≤p.t∧p.t≤255):IsB (hdB p):=by
  unfold hdB
  refine IsB.append (IsB.append (IsB.append ?_ (putL_isB _)) ?_) ((addrL_isB _).append (addrL_isB _))
  · intro x hx
    simp only [List.mem_cons,List.not_mem_nil,or_false] at hx
    omega
  · intro x hx
    simp only [List.mem_cons,List.not_mem_nil,or_false] at hx
    omega
theorem adl_len (a:Ad):(addrL a).length≤16∧4≤(addrL a).length:=by rw [addrL_len];split<;>omega
end Go.Proofs.YtcidmiacfjdepaaGreatDoor
