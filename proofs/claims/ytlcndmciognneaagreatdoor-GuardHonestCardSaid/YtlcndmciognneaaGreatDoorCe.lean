/-
  Reading a packet: the document. The bytes of a packet. The bytes of a packet, by the document.
-/
import Derived.Test.YtlcndmciognneaaGreatDoorJr
import Derived.Test.YtlcndmciognneaaGreatDoorMab
namespace Go.Proofs.YtlcndmciognneaaGreatDoor
open Go.RowKit
theorem pk_lit2 (p:Pk):pkC p=[.base (.bool p.s.v6),.base (.int .u64 p.s.hi),.base (.int .u64 p.s.lo),.base (.bool p.d.v6),.base (.int .u64 p.d.hi),.base (.int .u64 p.d.lo),.base (.int .i64 p.p),.base (.int .i64 p.t),.isl (bytesC p.bs) p.bs.length]:=rfl
theorem dcE_sh (b:List Int) (h0:b.length≠0):(gB b 0 / 16=4∧dcP b=p4 b∧dcE b=fin (p4 b) (c4 b))∨(gB b 0 / 16=6∧dcP b=p6 b∧dcE b=fin (p6 b) (c6 b))∨((gB b 0 / 16 != 4)=true∧(gB b 0 / 16 != 6)=true∧dcE b=5):=by
 unfold dcP dcE
 by_cases c1:gB b 0 / 16=4
 ·exact .inl ⟨c1,if_pos c1,by rw [if_neg h0,if_pos c1]⟩
 ·by_cases c2:gB b 0 / 16=6
  ·exact .inr (.inl ⟨c2,if_neg c1,by rw [if_neg h0,if_neg c1,if_pos c2]⟩)
  ·exact .inr (.inr ⟨by simpa using c1,by simpa using c2,by rw [if_neg h0,if_neg c1,if_neg c2]⟩)
set_option maxHeartbeats 8000000 in
theorem rdec_any (b:List Int) (hB:IsB b) (hl:b.length≤1000000):AFn Tryz.prog 37 0 [.isl (bytesC b) b.length] mt (rdV (dcP b) (dcE b)) mt:=by
 refine AFn.eq Tryz.func37 rfl rfl (Nat.le_of_ble_eq_true rfl) ?_
 have b0:=hB.at 0
 have hsh:=sh4 _ b0
 by_cases h0:b.length=0
 ·have g1:((b.length:Int) == 0)=true:=by rw [h0];rfl
  have hd:dcE b=4:=by unfold dcE;rw [if_pos h0]
  rw [hd,rdV_bad (by decide)]
  refine Wq<|qW 0 2 rfl<|qB rfl ty83<|qA rfl<|Nl<|Wq<|Wb<|Wq<|qW 6 10 rfl<|qM rfl<|qH rfl ty24<|qE rfl<|qA rfl<|Nl<|Wt rfl ‹_›<|Wq<|qW 14 17 rfl<|Od rfl rfl (Bs rfl ty83 .nil)<|qS rfl ty83 (Sl rfl) rfl<|qA rfl<|Nl<|W.nilc (q:=0) (j:=8) rfl rfl (Sl rfl)<|Wz ⟨.inl rfl,_,mt,(Rc (Ra0 rfl rfl ty83 rfl (Tl rfl)) (Rc (Rt rfl) Rv)),aM,?_⟩
  exact ⟨rfl,rfl⟩
 have g1:((b.length:Int) == 0)=false:=by rw [beq_eq_false_iff_ne];omega
 have hat0:=by_at (l:=b) (k:=0) (by omega)
 rcases dcE_sh b h0 with ⟨hv,hd1,hd2⟩|⟨hv,hd1,hd2⟩|⟨hv1,hv2,hd2⟩
 rotate_right
 ·rw [hd2,rdV_bad (by decide)]
  refine Wq<|qW 0 2 rfl<|qB rfl ty83<|qA rfl<|Nl<|Wq<|Wb<|Wq<|qW 6 10 rfl<|qM rfl<|qH rfl ty24<|qE rfl<|qA rfl<|Nl<|Wo rfl ‹_›<|Wq<|qW 21 34 rfl<|qM rfl<|qJ rfl rfl ty24 ty5 (by simp;omega)<|Od rfl rfl (Li rfl rfl hat0 ty5 rfl)<|Od rfl rfl (LO.shr rfl rfl rfl (by omega)) ?_
  rw [hsh]
  refine qN rfl<|qM rfl<|gM rfl ‹_›<|qU rfl ‹_› rfl (Ii rfl rfl rfl rfl rfl ty24 ty5 (by simp;omega))<|qU rfl ‹_› rfl (Li rfl rfl hat0 ty5 rfl)<|qU rfl ‹_› rfl (LO.shr rfl rfl rfl (by omega)) ?_
  rw [hsh]
  refine gN rfl ‹_›<|qT rfl ‹_› rfl<|qA rfl<|Nl<|Wt rfl ‹_›<|Wq<|qW 38 41 rfl<|Od rfl rfl (Bs rfl ty83 .nil)<|qS rfl ty83 (Sl rfl) rfl<|qA rfl<|Nl<|W.nilc (q:=0) (j:=8) rfl rfl (Sl rfl)<|Wz ⟨.inl rfl,_,mt,(Rc (Ra0 rfl rfl ty83 rfl (Tl rfl)) (Rc (Rt rfl) Rv)),aM,?_⟩
  exact ⟨rfl,rfl⟩
 ·rw [hv] at hsh
  rw [hd1,hd2]
  refine Wq<|qW 0 2 rfl<|qB rfl ty83<|qA rfl<|Nl<|Wq<|Wb<|Wq<|qW 6 10 rfl<|qM rfl<|qH rfl ty24<|qE rfl<|qA rfl<|Nl<|Wo rfl ‹_›<|Wq<|qW 21 34 rfl<|qM rfl<|qJ rfl rfl ty24 ty5 (by simp;omega)<|Od rfl rfl (Li rfl rfl hat0 ty5 rfl)<|Od rfl rfl (LO.shr rfl rfl rfl (by omega)) ?_
  rw [hsh]
  refine qN rfl<|qM rfl<|qD rfl rfl rfl<|qD rfl rfl rfl<|qD rfl rfl rfl<|qD rfl rfl rfl<|qD rfl rfl rfl<|qP rfl rfl rfl<|qA rfl<|Nl<|Wo rfl (rfl)<|Wq<|qW 45 51 rfl<|qM rfl<|qJ rfl rfl ty24 ty5 (by simp;omega)<|Od rfl rfl (Li rfl rfl hat0 ty5 rfl)<|Od rfl rfl (LO.shr rfl rfl rfl (by omega)) ?_
  rw [hsh]
  refine qE rfl<|qA rfl<|Nl<|Wo rfl (rfl) ?_
  rcases c4_cases b with ⟨k1,hc⟩|hrest
  ·have g2:decide ((b.length:Int) < 20)=true:=decide_eq_true (by omega)
   have hfe:fin (p4 b) (c4 b)=4:=by rw [hc];rfl
   rw [hfe,rdV_bad (by decide)]
   refine Wq<|qW 151 155 rfl<|qM rfl<|qH rfl ty24<|qK rfl<|qA rfl<|Nl<|Wt rfl ‹_›<|Wq<|qW 159 162 rfl<|Od rfl rfl (Bs rfl ty83 .nil)<|qS rfl ty83 (Sl rfl) rfl<|qA rfl<|Nl<|W.nilc (q:=0) (j:=8) rfl rfl (Sl rfl)<|Wz ⟨.inl rfl,_,mt,(Rc (Ra0 rfl rfl ty83 rfl (Tl rfl)) (Rc (Rt rfl) Rv)),aM,?_⟩
   exact ⟨rfl,rfl⟩
  have h20:20≤b.length:=by
   rcases hrest with h|h|h|h
   ·exact h.1
   ·exact h.1
   ·exact h.1
   ·exact h.1.1
  have g2:decide ((b.length:Int) < 20)=false:=decide_eq_false (by omega)
  have b2:=hB.at 2
  have b3:=hB.at 3
  have b6:=hB.at 6
  have b7:=hB.at 7
  have b8:=hB.at 8
  have b9:=hB.at 9
  have hand:=u8_and15 b0
  have hat2:=by_at (l:=b) (k:=2) (by omega)
  have hat3:=by_at (l:=b) (k:=3) (by omega)
  have hat6:=by_at (l:=b) (k:=6) (by omega)
  have hat7:=by_at (l:=b) (k:=7) (by omega)
  have hat8:=by_at (l:=b) (k:=8) (by omega)
  have hat9:=by_at (l:=b) (k:=9) (by omega)
  have hs2:=shl8 _ b2
  have hs6:=shl8 _ b6
  have hw0:gB b 2 * 256 + gB b 3=wh4 b:=rfl
  have hh0:4 * (gB b 0 % 16)=hd4 b:=by unfold hd4;omega
  have hwb:0≤wh4 b∧wh4 b≤65535:=by unfold wh4;omega
  have hhb:0≤hd4 b∧hd4 b≤60:=by unfold hd4;omega
  obtain ⟨fr,hfr⟩:∃ fr,gB b 6 * 256 + gB b 7=fr:=⟨_,rfl⟩
  have hfb:0≤fr∧fr≤65535:=by omega
  rw [hfr] at hrest
  have hmask:=i64_and14 hfb
  obtain ⟨h,hhn⟩:∃ h:Nat,hd4 b=(h:Int):=⟨(hd4 b).toNat,by omega⟩
  obtain ⟨w,hwn⟩:∃ w:Nat,wh4 b=(w:Int):=⟨(wh4 b).toNat,by omega⟩
  have hp4:p4 b=⟨fbA false ((b.drop 12).take 4),fbA false ((b.drop 16).take 4),gB b 9,gB b 8,(b.drop h).take (w - h)⟩:=by unfold p4;rw [hhn,hwn];rfl
  rw [hhn,hwn] at hrest
  refine Wq<|qW 151 155 rfl<|qM rfl<|qH rfl ty24<|qK rfl<|qA rfl<|Nl<|Wo rfl ‹_›<|Wu<|Wq<|Wd 166 184 (by decide) rfl mixed rfl<|qM rfl<|qJ rfl rfl ty24 ty5 (by simp;omega)<|Od rfl rfl (Li rfl rfl hat0 ty5 rfl)<|Od rfl rfl (LO.and rfl rfl rfl) ?_
  rw [hand]
  refine Od rfl rfl (Ci rfl rfl ty5 ty3 (iW _ (by omega)))<|Od rfl rfl (LO.mul_in rfl rfl rfl (iW _ (by omega))) ?_
  rw [hh0,hhn]
  refine qM rfl<|qJ rfl rfl ty24 ty5 (by simp;omega)<|Od rfl rfl (Li rfl rfl hat2 ty5 rfl)<|Od rfl rfl (Ci rfl rfl ty5 ty3 (iW _ (by omega)))<|Od rfl rfl (LO.shl rfl rfl rfl (by omega)) ?_
  rw [hs2]
  refine qM rfl<|qJ rfl rfl ty24 ty5 (by simp;omega)<|Od rfl rfl (Li rfl rfl hat3 ty5 rfl)<|Od rfl rfl (Ci rfl rfl ty5 ty3 (iW _ (by omega)))<|qZ rfl (iW _ (by omega)) ?_
  rw [hw0,hwn]
  refine qA rfl<|qA rfl<|Nl ⟨by kernel_rfl,(Wq<|Wb ?_)⟩
  rcases hrest with ⟨_,k1,hc⟩|⟨_,k1,k2,hc⟩|⟨_,k1,k2,k3,hc⟩|⟨⟨_,k1,k2,k3⟩,hrest⟩
  ·have g2:decide ((h:Int) < 20)=true:=decide_eq_true (by omega)
   have hfe:fin (p4 b) (c4 b)=5:=by rw [hc];rfl
   rw [hfe,rdV_bad (by decide)]
   refine Wq<|qW 188 196 rfl<|qM rfl<|qK rfl<|qM rfl<|qD rfl ‹_› rfl<|qD rfl ‹_› rfl<|qD rfl ‹_› rfl<|qT rfl ‹_› rfl<|qA rfl<|Nl<|Wt rfl rfl<|Wq<|qW 200 203 rfl<|Od rfl rfl (Bs rfl ty83 .nil)<|qS rfl ty83 (Sl rfl) rfl<|qA rfl<|Nl<|W.nilc (q:=0) (j:=8) rfl rfl (Sl rfl)<|Wz ⟨.inl rfl,_,mt,(Rc (Ra0 rfl rfl ty83 rfl (Tl rfl)) (Rc (Rt rfl) Rv)),aM,?_⟩
   exact ⟨rfl,rfl⟩
  ·have g2:decide ((h:Int) < 20)=false:=decide_eq_false (by omega)
   have g3:decide ((w:Int) < (h:Int))=true:=decide_eq_true (by omega)
   have hfe:fin (p4 b) (c4 b)=5:=by rw [hc];rfl
   rw [hfe,rdV_bad (by decide)]
   refine Wq<|qW 188 196 rfl<|qM rfl<|qK rfl<|qM rfl<|gM rfl ‹_›<|gM rfl ‹_›<|gK rfl ‹_›<|qP rfl ‹_› rfl<|qA rfl<|Nl<|Wt rfl ‹_›<|Wq<|qW 200 203 rfl<|Od rfl rfl (Bs rfl ty83 .nil)<|qS rfl ty83 (Sl rfl) rfl<|qA rfl<|Nl<|W.nilc (q:=0) (j:=8) rfl rfl (Sl rfl)<|Wz ⟨.inl rfl,_,mt,(Rc (Ra0 rfl rfl ty83 rfl (Tl rfl)) (Rc (Rt rfl) Rv)),aM,?_⟩
   exact ⟨rfl,rfl⟩
  ·have g2:decide ((h:Int) < 20)=false:=decide_eq_false (by omega)
   have g3:decide ((w:Int) < (h:Int))=false:=decide_eq_false (by omega)
   have g4:decide ((b.length:Int) < (w:Int))=true:=decide_eq_true (by omega)
   have hfe:fin (p4 b) (c4 b)=4:=by rw [hc];rfl
   rw [hfe,rdV_bad (by decide)]
   refine Wq<|qW 188 196 rfl<|qM rfl<|qK rfl<|qM rfl<|gM rfl ‹_›<|gM rfl ‹_›<|gK rfl ‹_›<|qP rfl ‹_› rfl<|qA rfl<|Nl<|Wo rfl ‹_›<|Wq<|qW 207 212 rfl<|qM rfl<|qH rfl ty24<|qM rfl<|qK rfl<|qA rfl<|Nl<|Wt rfl ‹_›<|Wq<|qW 216 219 rfl<|Od rfl rfl (Bs rfl ty83 .nil)<|qS rfl ty83 (Sl rfl) rfl<|qA rfl<|Nl<|W.nilc (q:=0) (j:=8) rfl rfl (Sl rfl)<|Wz ⟨.inl rfl,_,mt,(Rc (Ra0 rfl rfl ty83 rfl (Tl rfl)) (Rc (Rt rfl) Rv)),aM,?_⟩
   exact ⟨rfl,rfl⟩
  have g2:decide ((h:Int) < 20)=false:=decide_eq_false (by omega)
  have g3:decide ((w:Int) < (h:Int))=false:=decide_eq_false (by omega)
  have g4:decide ((b.length:Int) < (w:Int))=false:=decide_eq_false (by omega)
  have hsum:=sumX_any (b.take h) (hB.take h) (by rw [List.length_take];omega)
  have hth:(b.take h).length=h:=by rw [List.length_take];exact Nat.min_eq_left (by omega)
  rw [hth] at hsum
  rw [Int.toNat_natCast] at hrest
  refine Wq<|qW 188 196 rfl<|qM rfl<|qK rfl<|qM rfl<|gM rfl ‹_›<|gM rfl ‹_›<|gK rfl ‹_›<|qP rfl ‹_› rfl<|qA rfl<|Nl<|Wo rfl ‹_›<|Wq<|qW 207 212 rfl<|qM rfl<|qH rfl ty24<|qM rfl<|qK rfl<|qA rfl<|Nl<|Wo rfl ‹_›<|Wq<|qW 223 229 rfl<|qM rfl<|qM rfl<|Od rfl rfl (Lsi rfl rfl rfl Bnd.no (Ba rfl rfl) (by omega) (by omega) ty24 ty5 (by_take (by omega)))<|qY rfl (hsum) fok76 rfl<|qN rfl<|qA rfl<|Nl ?_
  rcases hrest with ⟨k4,hc⟩|⟨k4,hrest⟩
  ·have hfe:fin (p4 b) (c4 b)=6:=by rw [hc];rfl
   rw [hfe,rdV_bad (by decide)]
   refine Wt rfl ‹_›<|Wq<|qW 233 236 rfl<|Od rfl rfl (Bs rfl ty83 .nil)<|qS rfl ty83 (Sl rfl) rfl<|qA rfl<|Nl<|W.nilc (q:=0) (j:=8) rfl rfl (Sl rfl)<|Wz ⟨.inl rfl,_,mt,(Rc (Ra0 rfl rfl ty83 rfl (Tl rfl)) (Rc (Rt rfl) Rv)),aM,?_⟩
   exact ⟨rfl,rfl⟩
  refine Wo rfl ‹_›<|Wq<|Wd 240 253 (by decide) rfl mixed rfl<|qM rfl<|qJ rfl rfl ty24 ty5 (by simp;omega)<|Od rfl rfl (Li rfl rfl hat6 ty5 rfl)<|Od rfl rfl (Ci rfl rfl ty5 ty3 (iW _ (by omega)))<|Od rfl rfl (LO.shl rfl rfl rfl (by omega)) ?_
  rw [hs6]
  refine qM rfl<|qJ rfl rfl ty24 ty5 (by simp;omega)<|Od rfl rfl (Li rfl rfl hat7 ty5 rfl)<|Od rfl rfl (Ci rfl rfl ty5 ty3 (iW _ (by omega)))<|qZ rfl (iW _ (by omega)) ?_
  rw [hfr]
  refine Od rfl rfl (LO.and rfl rfl rfl) ?_
  rw [hmask]
  refine qN rfl<|qA rfl<|Nl ⟨by kernel_rfl,?_⟩
  rcases hrest with ⟨k5,hc⟩|⟨k5,hc⟩
  ·have hfe:fin (p4 b) (c4 b)=5:=by rw [hc];rfl
   rw [hfe,rdV_bad (by decide)]
   refine Wt rfl ‹_›<|Wq<|qW 257 260 rfl<|Od rfl rfl (Bs rfl ty83 .nil)<|qS rfl ty83 (Sl rfl) rfl<|qA rfl<|Nl<|W.nilc (q:=0) (j:=8) rfl rfl (Sl rfl)<|Wz ⟨.inl rfl,_,mt,(Rc (Ra0 rfl rfl ty83 rfl (Tl rfl)) (Rc (Rt rfl) Rv)),aM,?_⟩
   exact ⟨rfl,rfl⟩
  have hl1:((b.drop 12).take (16 - 12)).length=4:=by rw [List.length_take,List.length_drop];omega
  have hl2:((b.drop 16).take (20 - 16)).length=4:=by rw [List.length_take,List.length_drop];omega
  have hf1:=fromX_any ((b.drop 12).take (16 - 12)) ((hB.drop 12).take _) (.inl hl1)
  have hf2:=fromX_any ((b.drop 16).take (20 - 16)) ((hB.drop 16).take _) (.inl hl2)
  rw [hl1] at hf1
  rw [hl2] at hf2
  have hdl:((b.drop h).take (w - h)).length=w - h:=by rw [List.length_take,List.length_drop];omega
  have hend:=ended_any (p4 b)
  rw [hp4,pk_lit2] at hend
  dsimp only at hend
  rw [hdl] at hend
  rw [hc,hp4]
  unfold rdV at hend ⊢
  obtain ⟨E,hE⟩:∃ E,fin ⟨fbA false ((b.drop 12).take 4),fbA false ((b.drop 16).take 4),gB b 9,gB b 8,(b.drop h).take (w - h)⟩ 0=E:=⟨_,rfl⟩
  rw [hE] at hend ⊢
  obtain ⟨Q,hQ⟩:∃ Q,(if E=0 then (⟨fbA false ((b.drop 12).take 4),fbA false ((b.drop 16).take 4),gB b 9,gB b 8,(b.drop h).take (w - h)⟩:Pk) else zPk)=Q:=⟨_,rfl⟩
  rw [hQ] at hend ⊢
  unfold adC at hf1 hf2
  refine Wo rfl ‹_›<|Wu<|Wq<|qW 264 273 rfl<|qM rfl<|Od rfl rfl (Lsi rfl rfl rfl (Ba rfl rfl) (Ba rfl rfl) (by decide) (by simp;omega) ty24 ty5 (by_part (l:=b) (k:=12) (m:=16) (by decide) (by omega)))<|qY rfl (hf1) fok74 rfl<|qM rfl<|qX rfl<|qX rfl<|qB rfl ty54<|qS rfl ty54 (Sl rfl) rfl<|qA rfl<|Nl<|Wq<|qW 277 286 rfl<|qM rfl<|Od rfl rfl (Lsi rfl rfl rfl (Ba rfl rfl) (Ba rfl rfl) (by decide) (by omega) ty24 ty5 (by_part (l:=b) (k:=16) (m:=20) (by decide) (by omega)))<|qY rfl (hf2) fok74 rfl<|qM rfl<|qX rfl<|qX rfl<|qB rfl ty54<|qS rfl ty54 (Sl rfl) rfl<|qA rfl<|Nl<|Wq<|Wd 290 311 (by decide) rfl mixed rfl<|qG rfl ty54 rfl (Tl rfl)<|qG rfl ty54 rfl (Tl rfl)<|qM rfl<|qJ rfl rfl ty24 ty5 (by simp;omega)<|Od rfl rfl (Li rfl rfl hat9 ty5 rfl)<|Od rfl rfl (Ci rfl rfl ty5 ty3 (iW _ (by omega)))<|qM rfl<|qJ rfl rfl ty24 ty5 (by simp;omega)<|Od rfl rfl (Li rfl rfl hat8 ty5 rfl)<|Od rfl rfl (Ci rfl rfl ty5 ty3 (iW _ (by omega)))<|qM rfl<|qM rfl<|qM rfl<|Od rfl rfl (Lsi rfl rfl rfl (Ba rfl rfl) (Ba rfl rfl) (by omega) (by omega) ty24 ty5 (by_part (l:=b) (k:=h) (m:=w) (by omega) (by omega)))<|Od rfl rfl (Lan rfl rfl (Ssi rfl rfl (by rw [bytesC_len,hdl];omega)) ty24 ty24 ty5 (by decide) (by omega) (by omega) (by decide))<|Od rfl rfl (Bs rfl ty83 (.cons rfl rfl rfl rfl (Sl rfl) (.cons rfl rfl rfl rfl (Sl rfl) (.cons rfl rfl rfl rfl (Sl rfl) (.cons rfl rfl rfl rfl (Sl rfl) (.cons rfl rfl rfl rfl (Sl rfl) .nil))))))<|Od rfl rfl (C0 (fr:=[304]) rfl rfl (hend) fok75 (.cons rfl (.agg (.cons (.same rfl) (.cons (.same rfl) (.cons (.same rfl) (.cons (.same rfl) (.cons (.same rfl) (.cons (.same rfl) (.cons (.same rfl) (.cons (.same rfl) (.cons (.osl (by decide) rfl (bytes_tk hdl) (bytesC_pure _)) .nil)))))))))) .nil) rfl)<|qX rfl<|qX rfl<|qS rfl ty83 (Sl rfl) rfl<|qA rfl<|Nl ⟨by kernel_rfl,(Wz ⟨.inl rfl,_,mt,(Rc (Ra0 rfl rfl ty83 rfl (pk_tk Q)) (Rc (Rt rfl) Rv)),aM,?_⟩)⟩
  exact ⟨rfl,rfl⟩
 ·rw [hv] at hsh
  rw [hd1,hd2]
  have b4:=hB.at 4
  have b5:=hB.at 5
  have hs4:=shl8 _ b4
  have hw0:gB b 4 * 256 + gB b 5=wh6 b:=rfl
  have hwb:0≤wh6 b∧wh6 b≤65535:=by unfold wh6;omega
  obtain ⟨w,hwn⟩:∃ w:Nat,wh6 b=(w:Int):=⟨(wh6 b).toNat,by omega⟩
  have hp6:p6 b=⟨fbA true ((b.drop 8).take 16),fbA true ((b.drop 24).take 16),gB b 6,gB b 7,(b.drop 40).take w⟩:=by unfold p6;rw [hwn];rfl
  have hc6:=c6_cases b
  rw [hwn] at hw0 hwb hc6
  refine Wq<|qW 0 2 rfl<|qB rfl ty83<|qA rfl<|Nl<|Wq<|Wb<|Wq<|qW 6 10 rfl<|qM rfl<|qH rfl ty24<|qE rfl<|qA rfl<|Nl<|Wo rfl ‹_›<|Wq<|qW 21 34 rfl<|qM rfl<|qJ rfl rfl ty24 ty5 (by simp;omega)<|Od rfl rfl (Li rfl rfl hat0 ty5 rfl)<|Od rfl rfl (LO.shr rfl rfl rfl (by omega)) ?_
  rw [hsh]
  refine qN rfl<|qM rfl<|gM rfl rfl<|qU rfl rfl rfl (Ii rfl rfl rfl rfl rfl ty24 ty5 (by simp;omega))<|qU rfl rfl rfl (Li rfl rfl hat0 ty5 rfl)<|qU rfl rfl rfl (LO.shr rfl rfl rfl (by omega)) ?_
  rw [hsh]
  refine gN rfl rfl<|qT rfl rfl rfl<|qA rfl<|Nl<|Wo rfl (rfl)<|Wq<|qW 45 51 rfl<|qM rfl<|qJ rfl rfl ty24 ty5 (by simp;omega)<|Od rfl rfl (Li rfl rfl hat0 ty5 rfl)<|Od rfl rfl (LO.shr rfl rfl rfl (by omega)) ?_
  rw [hsh]
  refine qE rfl<|qA rfl<|Nl<|Wt rfl (rfl) ?_
  rcases hc6 with ⟨k1,hc⟩|⟨k1,k2,hc⟩|⟨k1,k2,hc⟩
  ·have g2:decide ((b.length:Int) < 40)=true:=decide_eq_true (by omega)
   have hfe:fin (p6 b) (c6 b)=4:=by rw [hc];rfl
   rw [hfe,rdV_bad (by decide)]
   refine Wq<|Wq<|Wd 55 74 (by decide) rfl mixed rfl<|qM rfl<|qH rfl ty24<|qK rfl<|qM rfl<|qD rfl ‹_› rfl<|qD rfl ‹_› rfl<|qD rfl ‹_› rfl<|qD rfl ‹_› rfl<|qD rfl ‹_› rfl<|qD rfl ‹_› rfl<|qD rfl ‹_› rfl<|qD rfl ‹_› rfl<|qD rfl ‹_› rfl<|qD rfl ‹_› rfl<|qD rfl ‹_› rfl<|qD rfl ‹_› rfl<|qD rfl ‹_› rfl<|qD rfl ‹_› rfl<|qT rfl ‹_› rfl<|Nl ⟨by kernel_rfl,(Wt rfl rfl<|Wq<|qW 78 81 rfl<|Od rfl rfl (Bs rfl ty83 .nil)<|qS rfl ty83 (Sl rfl) rfl<|qA rfl<|Nl<|W.nilc (q:=0) (j:=8) rfl rfl (Sl rfl)<|Wz ⟨.inl rfl,_,mt,(Rc (Ra0 rfl rfl ty83 rfl (Tl rfl)) (Rc (Rt rfl) Rv)),aM,?_⟩)⟩
   exact ⟨rfl,rfl⟩
  ·have g2:decide ((b.length:Int) < 40)=false:=decide_eq_false (by omega)
   have g3:decide ((b.length:Int) < 40 + gB b 4 * 256 + gB b 5)=true:=decide_eq_true (by omega)
   have hat4:=by_at (l:=b) (k:=4) (by omega)
   have hat5:=by_at (l:=b) (k:=5) (by omega)
   have hfe:fin (p6 b) (c6 b)=4:=by rw [hc];rfl
   rw [hfe,rdV_bad (by decide)]
   refine Wq<|Wq<|Wd 55 74 (by decide) rfl mixed rfl<|qM rfl<|qH rfl ty24<|qK rfl<|qM rfl<|gM rfl ‹_›<|gH rfl ‹_› ty24<|gM rfl ‹_›<|qU rfl ‹_› rfl (Ii rfl rfl rfl rfl rfl ty24 ty5 (by simp;omega))<|qU rfl ‹_› rfl (Li rfl rfl hat4 ty5 rfl)<|qU rfl ‹_› rfl (Ci rfl rfl ty5 ty3 (iW _ (by omega)))<|qU rfl ‹_› rfl (LO.shl rfl rfl rfl (by omega)) ?_
   rw [hs4]
   refine qU rfl ‹_› rfl (Ad0 rfl rfl rfl (iW _ (by omega)))<|gM rfl ‹_›<|qU rfl ‹_› rfl (Ii rfl rfl rfl rfl rfl ty24 ty5 (by simp;omega))<|qU rfl ‹_› rfl (Li rfl rfl hat5 ty5 rfl)<|qU rfl ‹_› rfl (Ci rfl rfl ty5 ty3 (iW _ (by omega)))<|qU rfl ‹_› rfl (Ad0 rfl rfl rfl (iW _ (by omega)))<|gK rfl ‹_›<|qP rfl ‹_› rfl<|Nl ⟨by kernel_rfl,(Wt rfl ‹_›<|Wq<|qW 78 81 rfl<|Od rfl rfl (Bs rfl ty83 .nil)<|qS rfl ty83 (Sl rfl) rfl<|qA rfl<|Nl<|W.nilc (q:=0) (j:=8) rfl rfl (Sl rfl)<|Wz ⟨.inl rfl,_,mt,(Rc (Ra0 rfl rfl ty83 rfl (Tl rfl)) (Rc (Rt rfl) Rv)),aM,?_⟩)⟩
   exact ⟨rfl,rfl⟩
  ·have g2:decide ((b.length:Int) < 40)=false:=decide_eq_false (by omega)
   have g3:decide ((b.length:Int) < 40 + gB b 4 * 256 + gB b 5)=false:=decide_eq_false (by omega)
   have hat4:=by_at (l:=b) (k:=4) (by omega)
   have hat5:=by_at (l:=b) (k:=5) (by omega)
   have hat6:=by_at (l:=b) (k:=6) (by omega)
   have hat7:=by_at (l:=b) (k:=7) (by omega)
   have b6:=hB.at 6
   have b7:=hB.at 7
   have hl1:((b.drop 8).take (24 - 8)).length=16:=by rw [List.length_take,List.length_drop];omega
   have hl2:((b.drop 24).take (40 - 24)).length=16:=by rw [List.length_take,List.length_drop];omega
   have hf1:=fromX_any ((b.drop 8).take (24 - 8)) ((hB.drop 8).take _) (.inr hl1)
   have hf2:=fromX_any ((b.drop 24).take (40 - 24)) ((hB.drop 24).take _) (.inr hl2)
   rw [hl1] at hf1
   rw [hl2] at hf2
   have hw4:40 + w - 40=w:=by omega
   have hdl:((b.drop 40).take (40 + w - 40)).length=40 + w - 40:=by rw [List.length_take,List.length_drop];omega
   have hend:=ended_any (p6 b)
   rw [hp6,pk_lit2] at hend
   dsimp only at hend
   rw [← hw4,hdl] at hend
   rw [hc,hp6,← hw4]
   unfold rdV at hend ⊢
   obtain ⟨E,hE⟩:∃ E,fin ⟨fbA true ((b.drop 8).take 16),fbA true ((b.drop 24).take 16),gB b 6,gB b 7,(b.drop 40).take (40 + w - 40)⟩ 0=E:=⟨_,rfl⟩
   rw [hE] at hend ⊢
   obtain ⟨Q,hQ⟩:∃ Q,(if E=0 then (⟨fbA true ((b.drop 8).take 16),fbA true ((b.drop 24).take 16),gB b 6,gB b 7,(b.drop 40).take (40 + w - 40)⟩:Pk) else zPk)=Q:=⟨_,rfl⟩
   rw [hQ] at hend ⊢
   unfold adC at hf1 hf2
   refine Wq<|Wq<|Wd 55 74 (by decide) rfl mixed rfl<|qM rfl<|qH rfl ty24<|qK rfl<|qM rfl<|gM rfl ‹_›<|gH rfl ‹_› ty24<|gM rfl ‹_›<|qU rfl ‹_› rfl (Ii rfl rfl rfl rfl rfl ty24 ty5 (by simp;omega))<|qU rfl ‹_› rfl (Li rfl rfl hat4 ty5 rfl)<|qU rfl ‹_› rfl (Ci rfl rfl ty5 ty3 (iW _ (by omega)))<|qU rfl ‹_› rfl (LO.shl rfl rfl rfl (by omega)) ?_
   rw [hs4]
   refine qU rfl ‹_› rfl (Ad0 rfl rfl rfl (iW _ (by omega)))<|gM rfl ‹_›<|qU rfl ‹_› rfl (Ii rfl rfl rfl rfl rfl ty24 ty5 (by simp;omega))<|qU rfl ‹_› rfl (Li rfl rfl hat5 ty5 rfl)<|qU rfl ‹_› rfl (Ci rfl rfl ty5 ty3 (iW _ (by omega)))<|qU rfl ‹_› rfl (Ad0 rfl rfl rfl (iW _ (by omega)))<|gK rfl ‹_›<|qP rfl ‹_› rfl<|Nl ⟨by kernel_rfl,(Wo rfl ‹_›<|Wu<|Wq<|Wd 85 96 (by decide) rfl mixed rfl<|qM rfl<|qJ rfl rfl ty24 ty5 (by simp;omega)<|Od rfl rfl (Li rfl rfl hat4 ty5 rfl)<|Od rfl rfl (Ci rfl rfl ty5 ty3 (iW _ (by omega)))<|Od rfl rfl (LO.shl rfl rfl rfl (by omega)) ?_)⟩
   rw [hs4]
   refine qM rfl<|qJ rfl rfl ty24 ty5 (by simp;omega)<|Od rfl rfl (Li rfl rfl hat5 ty5 rfl)<|Od rfl rfl (Ci rfl rfl ty5 ty3 (iW _ (by omega)))<|qZ rfl (iW _ (by omega)) ?_
   rw [hw0]
   refine qA rfl<|Nl ⟨by kernel_rfl,(Wq<|qW 100 109 rfl<|qM rfl<|Od rfl rfl (Lsi rfl rfl rfl (Ba rfl rfl) (Ba rfl rfl) (by decide) (by simp;omega) ty24 ty5 (by_part (l:=b) (k:=8) (m:=24) (by decide) (by omega)))<|qY rfl (hf1) fok74 rfl<|qM rfl<|qX rfl<|qX rfl<|qB rfl ty54<|qS rfl ty54 (Sl rfl) rfl<|qA rfl<|Nl<|Wq<|qW 113 122 rfl<|qM rfl<|Od rfl rfl (Lsi rfl rfl rfl (Ba rfl rfl) (Ba rfl rfl) (by decide) (by omega) ty24 ty5 (by_part (l:=b) (k:=24) (m:=40) (by decide) (by omega)))<|qY rfl (hf2) fok74 rfl<|qM rfl<|qX rfl<|qX rfl<|qB rfl ty54<|qS rfl ty54 (Sl rfl) rfl<|qA rfl<|Nl ?_)⟩
   have h40w:(40:Int) + (w:Int)=((40 + w:Nat):Int):=by omega
   refine Wq<|Wd 126 147 (by decide) rfl mixed rfl<|qG rfl ty54 rfl (Tl rfl)<|qG rfl ty54 rfl (Tl rfl)<|qM rfl<|qJ rfl rfl ty24 ty5 (by simp;omega)<|Od rfl rfl (Li rfl rfl hat6 ty5 rfl)<|Od rfl rfl (Ci rfl rfl ty5 ty3 (iW _ (by omega)))<|qM rfl<|qJ rfl rfl ty24 ty5 (by simp;omega)<|Od rfl rfl (Li rfl rfl hat7 ty5 rfl)<|Od rfl rfl (Ci rfl rfl ty5 ty3 (iW _ (by omega)))<|qM rfl<|qM rfl<|qZ rfl (iW _ (by omega))<|Od rfl rfl (Lsi rfl rfl rfl (Ba rfl rfl) (Ba rfl rfl) (by omega) (by simp;omega) ty24 ty5 (by_part (l:=b) (k:=40) (m:=40 + w) (by omega) (by omega)))<|Od rfl rfl (Lan rfl rfl (Ssi rfl rfl (by rw [bytesC_len,hdl];omega)) ty24 ty24 ty5 (by decide) (by omega) (by omega) (by decide))<|Od rfl rfl (Bs rfl ty83 (.cons rfl rfl rfl rfl (Sl rfl) (.cons rfl rfl rfl rfl (Sl rfl) (.cons rfl rfl rfl rfl (Sl rfl) (.cons rfl rfl rfl rfl (Sl rfl) (.cons rfl rfl rfl rfl (Sl rfl) .nil))))))<|Od rfl rfl (C0 (fr:=[140]) rfl rfl (hend) fok75 (.cons rfl (.agg (.cons (.same rfl) (.cons (.same rfl) (.cons (.same rfl) (.cons (.same rfl) (.cons (.same rfl) (.cons (.same rfl) (.cons (.same rfl) (.cons (.same rfl) (.cons (.osl (by decide) rfl (bytes_tk hdl) (bytesC_pure _)) .nil)))))))))) .nil) rfl)<|qX rfl<|qX rfl<|qS rfl ty83 (Sl rfl) rfl<|qA rfl<|Nl ⟨by kernel_rfl,(Wz ⟨.inl rfl,_,mt,(Rc (Ra0 rfl rfl ty83 rfl (pk_tk Q)) (Rc (Rt rfl) Rv)),aM,?_⟩)⟩
   exact ⟨rfl,rfl⟩
theorem by_tk2 {L M:List Int} {n:Nat} (h:L.length + M.length=n):Tk (bytesC L++bytesC M) 0 (n * 1) (bytesC (L++M)):=by
 rw [← bytesC_app];exact bytes_tk (by simp [h])
def hdB (p:Pk):List Int:=[69,0]++putL (20 + (p.bs.length:Int))++[0,0,64,0,p.t,p.p,0,0]++(addrL p.s++addrL p.d)
def hdS (p:Pk):List Int:=((hdB p).set 10 (hi8 (sumL (hdB p)))).set 11 (IntKind.u8.wrap (sumL (hdB p)))
def encB (p:Pk):List Int:=if p.s.v6 then [96,0,0,0]++putL (p.bs.length:Int)++[p.p,p.t]++(addrL p.s++addrL p.d)++p.bs else hdS p++p.bs
def encL2 (p:Pk):List Int:=if vpk p then encB p else []
def encE (p:Pk):Int:=if vpk p then 0 else 1
def ecV (p:Pk):AV:=.tup [.isl (bytesC (encL2 p)) (encL2 p).length,.base (.int .i64 (encE p))]
theorem hdB_len (p:Pk):(hdB p).length=12 + ((addrL p.s).length + (addrL p.d).length):=by simp [hdB,putL];omega
theorem hdB_isB {p:Pk} (h1:0≤p.p∧p.p≤255) (h2:0≤p.t∧p.t≤255):IsB (hdB p):=by
 unfold hdB
 refine IsB.append (IsB.append (IsB.append ?_ (putL_isB _)) ?_) ((addrL_isB _).append (addrL_isB _))
 ·intro x hx
  simp only [List.mem_cons,List.not_mem_nil,or_false] at hx
  omega
 ·intro x hx
  simp only [List.mem_cons,List.not_mem_nil,or_false] at hx
  omega
theorem adl_len (a:Ad):(addrL a).length≤16∧4≤(addrL a).length:=by rw [addrL_len];split<;>omega
theorem hi16 (s:Int):IntKind.u8.wrap (s.fdiv (2 ^ (min (8:Int).toNat IntKind.u16.bits)))=hi8 s:=by
 unfold hi8
 rw [show (2:Int) ^ (min (8:Int).toNat IntKind.u16.bits)=256 from by decide,show (2:Int) ^ (min (8:Int).toNat IntKind.i64.bits)=256 from by decide]
set_option maxHeartbeats 4000000 in
theorem renc_any (p:Pk) (s1:U64 p.s.hi) (s2:U64 p.s.lo) (d1:U64 p.d.hi) (d2:U64 p.d.lo) (hB:IsB p.bs):AFn Tryz.prog 43 0 [.agg (pkC p)] mt (ecV p) mt:=by
 refine AFn.eq Tryz.func43 rfl rfl (Nat.le_of_ble_eq_true rfl) ?_
 have hpv:=rpvalid_any p
 cases hv:vpk p
 ·rw [hv] at hpv
  have he:ecV p=.tup [.isl [] 0,.base (.int .i64 1)]:=by unfold ecV encL2 encE;rw [hv];rfl
  rw [he]
  refine Wq<|qW 0 3 rfl<|qC rfl<|qA rfl<|qA rfl<|Nl<|Wq<|Wq<|qW 7 10 rfl<|qG rfl ty83 rfl (Tl rfl)<|Od rfl rfl (C0 (fr:=[]) rfl rfl (hpv) fok77 (.cons rfl (.pure (pkC_pure p)) .nil) rfl)<|qO rfl<|Nl<|Wt rfl rfl<|Wq<|qW 14 16 rfl<|qA rfl<|qA rfl<|Nl<|W.nilt (t:=2) rfl<|Wz ⟨.inl rfl,_,mt,(Rc (Rt rfl) (Rc (Rt rfl) Rv)),aM,?_⟩
  exact ⟨rfl,rfl⟩
 rw [hv] at hpv
 obtain ⟨v1,v2,v3⟩:=vpk_parts hv
 have v4:=valid_parts hv
 have he:ecV p=.tup [.isl (bytesC (encB p)) (encB p).length,.base (.int .i64 0)]:=by unfold ecV encL2 encE;rw [hv];rfl
 rw [he]
 obtain ⟨_,_,hp4,hp5,hp6,hp7⟩:=v4
 have hbs:=bytesX_any p.s v1 s1 s2
 have hbd:=bytesX_any p.d v2 d1 d2
 have hls:=adl_len p.s
 have hld:=adl_len p.d
 cases h6:p.s.v6
 ·have hhl:=hdB_len p
  have hhB:=hdB_isB hp5 hp6
  have hsb:=sumL_bd hhB
  have hsm:=sumX_any (hdB p) hhB (by omega)
  obtain ⟨S,hS⟩:∃ S,sumL (hdB p)=S:=⟨_,rfl⟩
  rw [hS] at hsb hsm
  have hhs:hdS p=((hdB p).set 10 (hi8 S)).set 11 (IntKind.u8.wrap S):=by unfold hdS;rw [hS]
  have hsl:(hdS p).length=(hdB p).length:=by rw [hhs];simp
  have heB:encB p=hdS p++p.bs:=by unfold encB;rw [h6];rfl
  have hH:bytesC ([69,0]++putL (20 + (p.bs.length:Int))++[0,0,64,0,p.t,p.p,0,0]++addrL p.s)++bytesC (addrL p.d)=bytesC (hdB p):=by rw [← bytesC_app,List.append_assoc];rfl
  have hHl:([69,0]++putL (20 + (p.bs.length:Int))++[0,0,64,0,p.t,p.p,0,0]++addrL p.s).length + (addrL p.d).length=12 + (addrL p.s).length + (addrL p.d).length:=by simp [putL];omega
  have hHT:Tk (bytesC ([69,0]++putL (20 + (p.bs.length:Int))++[0,0,64,0,p.t,p.p,0,0]++addrL p.s)++bytesC (addrL p.d)) 0 ((12 + (addrL p.s).length + (addrL p.d).length) * 1) (bytesC (hdB p)):=by rw [hH];exact bytes_tk (by rw [hhl];omega)
  have hadd:(p.bs.length:Int) + 20=20 + (p.bs.length:Int):=by omega
  rw [heB]
  refine Wq<|qW 0 3 rfl<|qC rfl<|qA rfl<|qA rfl<|Nl<|Wq<|Wq<|qW 7 10 rfl<|qG rfl ty83 rfl (Tl rfl)<|Od rfl rfl (C0 (fr:=[]) rfl rfl (hpv) fok77 (.cons rfl (.pure (pkC_pure p)) .nil) rfl)<|qO rfl<|Nl<|Wo rfl rfl<|Wu<|Wq<|qW 20 24 rfl<|qF rfl ty83 rfl<|qL rfl ty24 rfl<|qH rfl ty24<|qA rfl<|Nl<|Wq<|Wq<|qW 28 31 rfl<|qF rfl ty83 rfl<|qF rfl ty54 rfl<|qL rfl ty4 rfl<|Nl<|Wo rfl ‹_›<|Wu<|Wq<|qW 70 73 rfl<|qM rfl<|qZ rfl (iW _ (by omega))<|qA rfl<|Nl ?_
  rw [hadd]
  have hT8:Tk (bytesC [69,0,hi8 (20 + (p.bs.length:Int)),IntKind.u8.wrap (20 + (p.bs.length:Int)),0,0,64,0,p.t,p.p,0,0]) 0 (12 * 1) (bytesC ([69,0]++putL (20 + (p.bs.length:Int))++[0,0,64,0,p.t,p.p,0,0])):=bytes_tk rfl
  unfold adC at hbs hbd
  refine Wq<|Wd 77 94 (by decide) rfl mixed rfl<|qM rfl<|Od rfl rfl (LO.shr rfl rfl rfl (by omega))<|Od rfl rfl (LO.conv rfl rfl ty3 ty5)<|qM rfl<|Od rfl rfl (LO.conv rfl rfl ty3 ty5)<|qF rfl ty83 rfl<|qL rfl ty3 rfl<|Od rfl rfl (Ci rfl rfl ty3 ty5 (IntWalk.u8_in _ (by omega)))<|qF rfl ty83 rfl<|qL rfl ty3 rfl<|Od rfl rfl (Ci rfl rfl ty3 ty5 (IntWalk.u8_in _ (by omega)))<|Od rfl rfl (LO.buildSlice rfl ty24 ty5 (by decide) (by decide) (.cons rfl rfl rfl rfl (Sl rfl) (.cons rfl rfl rfl rfl (Sl rfl) (.cons rfl rfl rfl rfl (Sl rfl) (.cons rfl rfl rfl rfl (Sl rfl) (.cons rfl rfl rfl rfl (Sl rfl) (.cons rfl rfl rfl rfl (Sl rfl) (.cons rfl rfl rfl rfl (Sl rfl) (.cons rfl rfl rfl rfl (Sl rfl) (.cons rfl rfl rfl rfl (Sl rfl) (.cons rfl rfl rfl rfl (Sl rfl) (.cons rfl rfl rfl rfl (Sl rfl) (.cons rfl rfl rfl rfl (Sl rfl) .nil)))))))))))))<|qF rfl ty83 rfl<|qG rfl ty54 rfl (Tl rfl)<|Od rfl rfl (LO.callO (fr:=[]) rfl rfl (hbs) fok85 (.cons rfl (.pure rfl) .nil) (bytesC_pure _) (by decide))<|Od rfl rfl (Lap rfl rfl (Sso rfl rfl (bytes_tk rfl)) rfl hT8 ty24 ty24 ty5 (by decide) (by omega) (by omega) (by decide))<|qA rfl<|Nl ⟨by kernel_rfl,(Wq<|qW 98 104 rfl<|qM rfl<|qF rfl ty83 rfl<|qG rfl ty54 rfl (Tl rfl)<|Od rfl rfl (LO.callO (fr:=[]) rfl rfl (hbd) fok85 (.cons rfl (.pure rfl) .nil) (bytesC_pure _) (by decide))<|Od rfl rfl (Lap rfl rfl (Sso rfl rfl (bytes_tk rfl)) rfl (by_tk2 (L:=[69,0]++putL (20 + (p.bs.length:Int))++[0,0,64,0,p.t,p.p,0,0]) (M:=addrL p.s) rfl) ty24 ty24 ty5 (by decide) (by omega) (by omega) (by decide))<|qA rfl<|Nl ?_)⟩
  rw [hhl,show 12 + ((addrL p.s).length + (addrL p.d).length)=12 + (addrL p.s).length + (addrL p.d).length from by omega] at hsm
  refine Wq<|qW 108 111 rfl<|qM rfl<|Od rfl rfl (LO.callB (fr:=[102]) rfl rfl (hsm) fok76 (.cons rfl (.one (.osl (by decide) rfl hHT (bytesC_pure _))) .nil))<|qA rfl<|Nl ?_
  rw [hH]
  refine Wq<|qW 115 126 rfl<|qM rfl<|qM rfl<|qM rfl<|Od rfl rfl (LO.shr rfl rfl rfl (by omega))<|Od rfl rfl (LO.conv rfl rfl ty133 ty5)<|qM rfl<|Od rfl rfl (LO.conv rfl rfl ty133 ty5)<|Od rfl rfl (Ia rfl rfl rfl rfl ty24 ty5 (by simp;omega))<|qS rfl ty5 (by_sp (l:=hdB p) (k:=10) (by omega)) rfl<|Od rfl rfl (Ia rfl rfl rfl rfl ty24 ty5 (by simp;omega))<|qS rfl ty5 (by_sp (l:=(hdB p).set 10 _) (k:=11) (by simp;omega)) rfl<|Nl ?_
  rw [hi16,← hhs]
  have hlen:(hdS p).length=12 + (addrL p.s).length + (addrL p.d).length:=by rw [hsl,hhl];omega
  refine Wq<|qW 130 136 rfl<|qM rfl<|qF rfl ty83 rfl<|qL rfl ty24 rfl<|Od rfl rfl (Lap rfl rfl (Ssi rfl rfl (by simp [bytesC_len])) rfl (bytes_tk (l:=hdS p) hlen) ty24 ty24 ty5 (by decide) (by omega) (by omega) (by decide))<|qA rfl<|qA rfl<|Nl<|Wy (t:=2) rfl rfl (by_tk2 (L:=hdS p) (M:=p.bs) (congrArg (· + p.bs.length) hlen)) (bytesC_pure _)<|Wz ⟨.inl rfl,_,mt,(Rc (Rt rfl) (Rc (Rt rfl) Rv)),aM,?_⟩
  exact ⟨by rw [List.length_append,hlen];rfl,rfl⟩
 ·have heB:encB p=[96,0,0,0]++putL (p.bs.length:Int)++[p.p,p.t]++addrL p.s++addrL p.d++p.bs:=by unfold encB;rw [h6,if_pos rfl];simp only [List.append_assoc]
  have hT0:Tk (bytesC ([96,0,0,0]++putL (p.bs.length:Int)++[p.p,p.t]++addrL p.s)) 0 ((8 + (addrL p.s).length) * 1) (bytesC ([96,0,0,0]++putL (p.bs.length:Int)++[p.p,p.t]++addrL p.s)):=bytes_tk (by simp [putL];omega)
  have hl0:([96,0,0,0]++putL (p.bs.length:Int)++[p.p,p.t]++addrL p.s).length + (addrL p.d).length=8 + (addrL p.s).length + (addrL p.d).length:=by simp [putL];omega
  have hl1:([96,0,0,0]++putL (p.bs.length:Int)++[p.p,p.t]++addrL p.s++addrL p.d).length + p.bs.length=8 + (addrL p.s).length + (addrL p.d).length + p.bs.length:=by simp [putL];omega
  rw [heB]
  refine Wq<|qW 0 3 rfl<|qC rfl<|qA rfl<|qA rfl<|Nl<|Wq<|Wq<|qW 7 10 rfl<|qG rfl ty83 rfl (Tl rfl)<|Od rfl rfl (C0 (fr:=[]) rfl rfl (hpv) fok77 (.cons rfl (.pure (pkC_pure p)) .nil) rfl)<|qO rfl<|Nl<|Wo rfl rfl<|Wu<|Wq<|qW 20 24 rfl<|qF rfl ty83 rfl<|qL rfl ty24 rfl<|qH rfl ty24<|qA rfl<|Nl<|Wq<|Wq<|qW 28 31 rfl<|qF rfl ty83 rfl<|qF rfl ty54 rfl<|qL rfl ty4 rfl<|Nl<|Wt rfl ‹_› ?_
  have hT8:Tk (bytesC [96,0,0,0,hi8 (p.bs.length:Int),IntKind.u8.wrap (p.bs.length:Int),p.p,p.t]) 0 (8 * 1) (bytesC ([96,0,0,0]++putL (p.bs.length:Int)++[p.p,p.t])):=bytes_tk rfl
  unfold adC at hbs hbd
  refine Wq<|Wd 35 52 (by decide) rfl mixed rfl<|qM rfl<|Od rfl rfl (LO.shr rfl rfl rfl (by omega))<|Od rfl rfl (LO.conv rfl rfl ty3 ty5)<|qM rfl<|Od rfl rfl (LO.conv rfl rfl ty3 ty5)<|qF rfl ty83 rfl<|qL rfl ty3 rfl<|Od rfl rfl (Ci rfl rfl ty3 ty5 (IntWalk.u8_in _ (by omega)))<|qF rfl ty83 rfl<|qL rfl ty3 rfl<|Od rfl rfl (Ci rfl rfl ty3 ty5 (IntWalk.u8_in _ (by omega)))<|Od rfl rfl (LO.buildSlice rfl ty24 ty5 (by decide) (by decide) (.cons rfl rfl rfl rfl (Sl rfl) (.cons rfl rfl rfl rfl (Sl rfl) (.cons rfl rfl rfl rfl (Sl rfl) (.cons rfl rfl rfl rfl (Sl rfl) (.cons rfl rfl rfl rfl (Sl rfl) (.cons rfl rfl rfl rfl (Sl rfl) (.cons rfl rfl rfl rfl (Sl rfl) (.cons rfl rfl rfl rfl (Sl rfl) .nil)))))))))<|qF rfl ty83 rfl<|qG rfl ty54 rfl (Tl rfl)<|Od rfl rfl (LO.callO (fr:=[]) rfl rfl (hbs) fok85 (.cons rfl (.pure rfl) .nil) (bytesC_pure _) (by decide))<|Od rfl rfl (Lap rfl rfl (Sso rfl rfl (bytes_tk rfl)) rfl hT8 ty24 ty24 ty5 (by decide) (by omega) (by omega) (by decide))<|qA rfl<|Nl ⟨by kernel_rfl,(Wq<|Wd 56 66 (by decide) rfl mixed rfl<|qM rfl<|qF rfl ty83 rfl<|qG rfl ty54 rfl (Tl rfl)<|Od rfl rfl (LO.callO (fr:=[]) rfl rfl (hbd) fok85 (.cons rfl (.pure rfl) .nil) (bytesC_pure _) (by decide))<|Od rfl rfl (Lap rfl rfl (Sso rfl rfl (bytes_tk rfl)) rfl (by rw [← bytesC_app];exact hT0) ty24 ty24 ty5 (by decide) (by omega) (by omega) (by decide))<|qF rfl ty83 rfl<|qL rfl ty24 rfl<|Od rfl rfl (Lap rfl rfl (Ssi rfl rfl (by simp [bytesC_len])) rfl (by_tk2 hl0) ty24 ty24 ty5 (by decide) (by omega) (by omega) (by decide))<|qA rfl<|qA rfl<|Nl ⟨by kernel_rfl,(Wy (t:=2) rfl rfl (by_tk2 hl1) (bytesC_pure _)<|Wz ⟨.inl rfl,_,mt,(Rc (Rt rfl) (Rc (Rt rfl) Rv)),aM,?_⟩)⟩)⟩
  exact ⟨by rw [List.length_append,hl1];rfl,rfl⟩
end Go.Proofs.YtlcndmciognneaaGreatDoor
