/-
  Reading a message, by the document: a packet that is right so far, with enough bytes. Reading a message, by the document. Where a frame goes, by the document. The rule of a port, copied. Which addresses lie in the blocks of the exchange (plain).
-/
import Derived.Test.YtlcndmciognneaaGreatDoorRc
import Derived.Test.YtlcndmciognneaaGreatDoorMab
import Derived.Test.YtlcndmciognneaaGreatDoorJr
import Derived.Test.YtlcndmciognneaaGreatDoorCe
namespace Go.Proofs.YtlcndmciognneaaGreatDoor
open Go.RowKit
set_option maxHeartbeats 8000000 in
theorem decX_ok (p:Pk) (hB:IsB p.bs) (s1:U64 p.s.hi) (s2:U64 p.s.lo) (d1:U64 p.d.hi) (d2:U64 p.d.lo) (hE:chkE p=0) (hsz:¬ p.bs.length < 4 + fixN (gB p.bs 0)):AFn Tryz.prog 38 0 [.agg (pkC p)] mt (decV p) mt:=by
 refine AFn.eq Tryz.func38 rfl rfl (Nat.le_of_ble_eq_true rfl) ?_
 obtain ⟨hv,g1,g2,g3,g4,g5,hl4,k1,k2,k3⟩:=chkE_ok hE
 have hvp:=rpvalid_any p
 rw [hv] at hvp
 obtain ⟨v1,v2,v3⟩:=vpk_parts hv
 have hck:=chkX_any p.s p.d 58 p.bs v1 v2 s1 s2 d1 d2 hB (by omega)
 unfold adC at hck
 have hdv:decV p=.tup [.agg (nbC (rdB p.s (gB p.bs 0) (p.bs.drop 4)).1),.base (.int .i64 (rdB p.s (gB p.bs 0) (p.bs.drop 4)).2)]:=by unfold decV decR;rw [hE];rfl
 rw [hdv]
 have hat0:=by_at (l:=p.bs) (k:=0) (by omega)
 have hat1:=by_at (l:=p.bs) (k:=1) (by omega)
 have b0:=hB.at 0
 obtain ⟨k,hk⟩:∃ k,gB p.bs 0=k:=⟨_,rfl⟩
 have hfn:fixN k≤36∧4≤fixN k:=by unfold fixN;split<;>(try split)<;>(try split)<;>omega
 rw [hk] at k1 k2 hat0 b0 hsz ⊢
 have hfx:=fixedX_any k
 have htg:=targetedX_any k
 have hop:=optionX_any k
 have g6:decide ((p.bs.length:Int) < 4 + (fixN k:Int))=false:=decide_eq_false (by omega)
 have h133:133≤k∧k≤137:=by have:=of_decide_eq_false k1;have:=of_decide_eq_false k2;omega
 refine Wq<|qW 0 3 rfl<|qC rfl<|qB rfl ty87<|qA rfl<|Nl<|Wq<|qW 7 10 rfl<|qF rfl ty83 rfl<|qL rfl ty24 rfl<|qA rfl<|Nl<|Wq<|Wb<|Wq<|qW 14 18 rfl<|qG rfl ty83 rfl (Tl rfl)<|Od rfl rfl (C0 (fr:=[]) rfl rfl (hvp) fok77 (.cons rfl (.pure (pkC_pure p)) .nil) rfl)<|qO rfl<|qA rfl<|Nl<|Wo rfl rfl<|Wq<|qW 29 39 rfl<|qF rfl ty83 rfl<|qF rfl ty54 rfl<|qL rfl ty4 rfl<|qO rfl<|qM rfl<|gF rfl ‹_› ty83 rfl<|gL rfl ‹_› ty3 rfl<|gN rfl ‹_›<|qP rfl ‹_› rfl<|qA rfl<|Nl<|Wo rfl ‹_›<|Wq<|qW 50 54 rfl<|qF rfl ty83 rfl<|qL rfl ty3 rfl<|qN rfl<|qA rfl<|Nl<|Wo rfl ‹_›<|Wq<|qW 65 69 rfl<|qM rfl<|qH rfl ty24<|qK rfl<|qA rfl<|Nl<|Wo rfl ‹_›<|Wq<|qW 80 88 rfl<|qF rfl ty83 rfl<|qG rfl ty54 rfl (Tl rfl)<|qF rfl ty83 rfl<|qG rfl ty54 rfl (Tl rfl)<|qM rfl<|qY rfl (hck) fok78 rfl<|qN rfl<|qA rfl<|Nl<|Wo rfl ‹_›<|Wq<|qW 99 116 rfl<|qM rfl<|qJ rfl rfl ty24 ty5 (by simp;omega)<|Od rfl rfl (Li rfl rfl hat0 ty5 rfl)<|qK rfl<|qM rfl<|gM rfl ‹_›<|qU rfl ‹_› rfl (Ii rfl rfl rfl rfl rfl ty24 ty5 (by simp;omega))<|qU rfl ‹_› rfl (Li rfl rfl hat0 ty5 rfl)<|gGt rfl ‹_›<|qP rfl ‹_› rfl<|qM rfl<|gM rfl ‹_›<|qU rfl ‹_› rfl (Ii rfl rfl rfl rfl rfl ty24 ty5 (by simp;omega))<|qU rfl ‹_› rfl (Li rfl rfl hat1 ty5 rfl)<|gN rfl ‹_›<|qP rfl ‹_› rfl<|qA rfl<|Nl<|Wo rfl ‹_›<|Wu<|Wq<|qW 127 134 rfl<|qM rfl<|qJ rfl rfl ty24 ty5 (by simp;omega)<|Od rfl rfl (Li rfl rfl hat0 ty5 rfl)<|Od rfl rfl (Ci rfl rfl ty5 ty3 (iW _ (by omega)))<|Od rfl rfl (Bs rfl ty87 (.cons rfl rfl rfl rfl (Sl rfl) .nil))<|qB rfl ty87<|qS rfl ty87 (Sl rfl) rfl<|Nl<|Wq<|Wq<|qW 138 145 rfl<|qM rfl<|qH rfl ty24<|qF rfl ty87 rfl<|qL rfl ty3 rfl<|qY rfl (hfx) fok79 rfl<|qZ rfl (iW _ (by omega))<|qK rfl<|Nl<|Wo rfl ‹_›<|Wu<|Wq<|Wq<|qW 156 159 rfl<|qF rfl ty87 rfl<|qL rfl ty3 rfl<|qY rfl (htg) fok80 rfl<|Nl ?_
 obtain ⟨B,hBe⟩:∃ B,p.bs.drop 4=B:=⟨_,rfl⟩
 have hBl:B.length=p.bs.length - 4:=by rw [← hBe];simp
 have hBB:IsB B:=by rw [← hBe];exact hB.drop 4
 have hd8:p.bs.drop 8=B.drop 4:=by rw [← hBe,List.drop_drop]
 have hdr:p.bs.drop (4 + fixN k)=B.drop (fixN k):=by rw [← hBe,List.drop_drop]
 have hg4:gB p.bs 4=gB B 0:=by rw [← hBe];simp [gB,List.getD_eq_getElem?_getD]
 rw [hBe]
 have hszB:¬ B.length < fixN k:=by omega
 have hrd:rdB p.s k B=if targB k=true∧grpA (tgF k B)=true then ((zNb,5):Nb × Int) else match optF (B.drop (fixN k)).length (B.drop (fixN k)) (optN k) false zMac with
  | none=>(zNb,5)
  | some r=>if k=135∧r.1=true∧eqA p.s ⟨true,0,0⟩=true then (zNb,5) else (⟨k,flF k B,tgF k B,r.1,r.2⟩,0):=by unfold rdB;exact if_neg hszB
 have h20:targB k=true→fixN k=36∨fixN k=20:=fun h=>by
  unfold targB at h;simp only [Bool.and_eq_true,decide_eq_true_eq] at h
  unfold fixN;rw [if_neg (by omega),if_neg (by omega)];split<;>simp
 have hcase:(targB k=true∧grpA (tgF k B)=true)∨(targB k=false∧(k == 136)=false∧tgF k B=zAd∧flF k B=0)∨(targB k=true∧grpA (tgF k B)=false∧(k == 136)=false∧flF k B=0)∨(targB k=true∧grpA (tgF k B)=false∧(k == 136)=true∧flF k B=(gB p.bs 4).fdiv (2 ^ (min (5:Int).toNat IntKind.u8.bits))):=by
  rw [hg4]
  cases ht:targB k with
  | false =>
   have hk:k≠136:=fun e=>by rw [e] at ht;exact absurd ht (by decide)
   exact .inr (.inl ⟨rfl,by simpa using hk,by unfold tgF;rw [ht];rfl,by unfold flF;rw [if_neg hk]⟩)
  | true =>
   cases hg:grpA (tgF k B) with
   | true=>exact .inl ⟨rfl,rfl⟩
   | false =>
    by_cases hk:k=136
    ·exact .inr (.inr (.inr ⟨rfl,rfl,by simpa using hk,by unfold flF;rw [if_pos hk]⟩))
    ·exact .inr (.inr (.inl ⟨rfl,rfl,by simpa using hk,by unfold flF;rw [if_neg hk]⟩))
 have hfr:targB k=true→AFn Tryz.prog 74 0 [.isl (bytesC ((p.bs.drop 8).take (24 - 8))) (24 - 8)] mt (.tup [.agg (adC (tgF k B)),.base (.int .i64 0)]) mt:=fun h=>by
  rw [hd8]
  have hl16:((B.drop 4).take (20 - 4)).length=16:=by have:=h20 h;simp;omega
  have:=fromX_any ((B.drop 4).take (20 - 4)) ((hBB.drop 4).take _) (.inr hl16)
  have e:tgF k B=adOf ((B.drop 4).take (20 - 4)):=by unfold tgF;rw [h];rfl
  rw [e]
  rw [hl16] at this
  unfold adOf
  rw [hl16]
  exact this
 have hgr:=groupX_any (tgF k B)
 have hfd:0≤(gB p.bs 4).fdiv (2 ^ (min (5:Int).toNat IntKind.u8.bits))∧(gB p.bs 4).fdiv (2 ^ (min (5:Int).toNat IntKind.u8.bits))≤255:=by
  have:=hB.at 4
  rw [show (2:Int) ^ (min (5:Int).toNat IntKind.u8.bits)=32 from by decide,Int.fdiv_eq_ediv_of_nonneg _ (by decide)];omega
 obtain ⟨TG,hTG⟩:∃ TG,tgF k B=TG:=⟨_,rfl⟩
 obtain ⟨FL,hFL⟩:∃ FL,flF k B=FL:=⟨_,rfl⟩
 rw [hTG] at hrd hcase hfr hgr
 rw [hFL] at hrd hcase
 obtain ⟨R,hR⟩:∃ R,optF (B.drop (fixN k)).length (B.drop (fixN k)) (optN k) false zMac=R:=⟨_,rfl⟩
 rw [hR] at hrd
 have hat4:5≤p.bs.length→(bytesC p.bs)[4 * 1]?=some (.base (.int .u8 (gB p.bs 4))):=fun h=>by_at (by omega)
 rcases hcase with ⟨ht,hg⟩|⟨ht,hk6,htz,hfz⟩|⟨ht,hg,hk6,hfz⟩|⟨ht,hg,hk6,hfz⟩
 case' inl =>
  rw [if_pos ⟨ht,hg⟩] at hrd
  rw [hrd]
  rw [hg] at hgr
  have h20t:=h20 ht
  refine Wt rfl (ht)<|Wq<|qW 163 171 rfl<|qM rfl<|Od rfl rfl (Lsi rfl rfl rfl (Ba rfl rfl) (Ba rfl rfl) (by decide) (by simp;omega) ty24 ty5 (by_part (l:=p.bs) (k:=8) (m:=24) (by decide) (by omega)))<|qY rfl ((hfr ht)) fok74 rfl<|qM rfl<|qX rfl<|qX rfl<|qF rfl ty87 rfl<|qS rfl ty54 (Sl rfl) rfl<|Nl ?_
  unfold adC at hgr ⊢
  refine Wq<|qW 175 178 rfl<|qF rfl ty87 rfl<|qG rfl ty54 rfl (Tl rfl)<|qY rfl (hgr) fok81 rfl<|Nl<|Wt rfl rfl<|Wq<|qW 182 185 rfl<|Od rfl rfl (Bs rfl ty87 .nil)<|qS rfl ty87 (Sl rfl) rfl<|qA rfl<|Nl<|Wz ⟨.inl rfl,_,mt,(Rc (Ra0 rfl rfl ty87 rfl (Tl rfl)) (Rc (Rt rfl) Rv)),aM,?_⟩
  exact ⟨rfl,rfl⟩
 case' inr.inl =>
  refine Wo rfl (ht)<|Wu<|Wq<|Wq<|qW 189 192 rfl<|qF rfl ty87 rfl<|qL rfl ty3 rfl<|qE rfl<|Nl<|Wo rfl ‹_›<|Wu ?_
  rw [if_neg (by rw [ht];simp)] at hrd
  have hF:=hfz.symm
  have hT:=htz.symm
 case' inr.inr.inl =>
  rw [hg] at hgr
  have h20t:=h20 ht
  refine Wt rfl (ht)<|Wq<|qW 163 171 rfl<|qM rfl<|Od rfl rfl (Lsi rfl rfl rfl (Ba rfl rfl) (Ba rfl rfl) (by decide) (by simp;omega) ty24 ty5 (by_part (l:=p.bs) (k:=8) (m:=24) (by decide) (by omega)))<|qY rfl ((hfr ht)) fok74 rfl<|qM rfl<|qX rfl<|qX rfl<|qF rfl ty87 rfl<|qS rfl ty54 (Sl rfl) rfl<|Nl ?_
  unfold adC at hgr ⊢
  refine Wq<|qW 175 178 rfl<|qF rfl ty87 rfl<|qG rfl ty54 rfl (Tl rfl)<|qY rfl (hgr) fok81 rfl<|Nl<|Wo rfl rfl<|Wu<|Wq<|Wq<|qW 189 192 rfl<|qF rfl ty87 rfl<|qL rfl ty3 rfl<|qE rfl<|Nl<|Wo rfl ‹_›<|Wu ?_
  rw [if_neg (by rw [hg];simp)] at hrd
  have hF:=hfz.symm
  have hT:TG=TG:=rfl
 case' inr.inr.inr =>
  rw [hg] at hgr
  have h20t:=h20 ht
  refine Wt rfl (ht)<|Wq<|qW 163 171 rfl<|qM rfl<|Od rfl rfl (Lsi rfl rfl rfl (Ba rfl rfl) (Ba rfl rfl) (by decide) (by simp;omega) ty24 ty5 (by_part (l:=p.bs) (k:=8) (m:=24) (by decide) (by omega)))<|qY rfl ((hfr ht)) fok74 rfl<|qM rfl<|qX rfl<|qX rfl<|qF rfl ty87 rfl<|qS rfl ty54 (Sl rfl) rfl<|Nl ?_
  unfold adC at hgr ⊢
  refine Wq<|qW 175 178 rfl<|qF rfl ty87 rfl<|qG rfl ty54 rfl (Tl rfl)<|qY rfl (hgr) fok81 rfl<|Nl<|Wo rfl rfl<|Wu<|Wq<|Wq<|qW 189 192 rfl<|qF rfl ty87 rfl<|qL rfl ty3 rfl<|qE rfl<|Nl<|Wt rfl ‹_›<|qW 196 203 rfl<|qM rfl<|qJ rfl rfl ty24 ty5 (by simp;omega)<|Od rfl rfl (Li rfl rfl (hat4 (by have:=h20 ht;omega)) ty5 rfl)<|Od rfl rfl (LO.shr rfl rfl rfl (by omega))<|Od rfl rfl (Ci rfl rfl ty5 ty3 (iW _ (by omega)))<|qF rfl ty87 rfl<|qS rfl ty3 (Sl rfl) rfl<|Nl ?_
  rw [if_neg (by rw [hg];simp)] at hrd
  have hF:=hfz.symm
  have hT:TG=TG:=rfl
 all_goals
  obtain ⟨Bo,hBo⟩:∃ Bo,p.bs.drop (4 + fixN k)=Bo:=⟨_,rfl⟩
  have hBoo:IsB Bo:=by rw [← hBo];exact hB.drop _
  have hBol:p.bs.length - (4 + fixN k)=Bo.length:=by rw [← hBo];simp
  have hRo:optF Bo.length Bo (optN k) false zMac=R:=by rw [← hBo,hdr];exact hR
  have hBo2:Bo.length≤100000:=by omega
  repeat (refine Wq ?_)
  refine qW 207 214 rfl<|qM rfl<|qF rfl ty87 rfl<|qL rfl ty3 rfl<|qY rfl (hfx) fok79 rfl<|qZ rfl (iW _ (by omega))<|Od rfl rfl (Lsi rfl rfl rfl (Ba rfl rfl) Bnd.no (by simp;omega) (by omega) ty24 ty5 (by_drop (l:=p.bs) (k:=4 + fixN k) rfl))<|qA rfl<|Nl ?_
  rw [hBo,hBol]
  repeat (refine Wq ?_)
  refine Wb<|W.loop_keep (α:=List Int × Bool × List Int × Nat × Int × Ad) (fun x=>x.1.length) 3 (fun x=>[(1,.own 0 0),(2,.own 1 0),(5,.own 2 0),(6,.isl (bytesC x.1) x.1.length)]) (fun x=>up (up (up mt 0 (some (pkC p))) 1 (some (nbC zNb))) 2 (some (nbC ⟨k,x.2.2.2.2.1,x.2.2.2.2.2,x.2.1,x.2.2.1⟩))) (fun x=>(x.1.length≤x.2.2.2.1∧x.1.length≤100000)∧IsB x.1∧x.2.2.1.length=6∧optF x.2.2.2.1 x.1 (optN k) x.2.1 x.2.2.1=R∧x.2.2.2.2.1=FL∧x.2.2.2.2.2=TG) (Bo,false,zMac,Bo.length,_,_) [(0,0),(1,1),(2,132)] .nil (show (Bo.length≤Bo.length∧Bo.length≤100000)∧IsB Bo∧zMac.length=6∧optF Bo.length Bo (optN k) false zMac=R∧_=FL∧_=TG from ⟨⟨Nat.le_refl _,hBo2⟩,hBoo,rfl,hRo,hF,hT⟩) (by decide) ?_ ?_ ?_
  ·exact lC (lI rfl) (lC (lI rfl) (lC (lI rfl) (lC (lR rfl) lN)))
  ·exact aU (kR rfl) (aU (kR rfl) (aU (kR rfl) aM))
  rintro ⟨b,has,ln,q,fl,tg⟩ hIA ihA
  try (dsimp only at hIA)
  try dsimp only [baseT,List.cons_append,List.nil_append]
  obtain ⟨⟨hq,hbl⟩,hb,h6,hr,hf0,ht0⟩:=hIA
  rw [← hf0,← ht0] at hrd
  by_cases hz:b.length=0
  ·have g7:decide ((b.length:Int) > 0)=false:=decide_eq_false (by omega)
   have hr2:R=some (has,ln):=by
    rw [← hr]
    cases q with
    | zero=>rfl
    | succ q=>unfold optF;rw [if_pos hz]
   rw [hr2] at hrd
   dsimp only at hrd
   have hc4:((k == 135)=false∧¬ (k=135∧has=true∧eqA p.s ⟨true,0,0⟩=true))∨((k == 135)=true∧has=false∧¬ (k=135∧has=true∧eqA p.s ⟨true,0,0⟩=true))∨((k == 135)=true∧has=true∧eqA p.s ⟨true,0,0⟩=false∧¬ (k=135∧has=true∧eqA p.s ⟨true,0,0⟩=true))∨((k == 135)=true∧has=true∧eqA p.s ⟨true,0,0⟩=true):=by
    by_cases e1:k=135<;>cases e2:has<;>cases e3:eqA p.s ⟨true,0,0⟩<;>simp [e1]
   repeat (refine Wq ?_)
   refine qW 218 221 rfl<|qM rfl<|qH rfl ty24<|qGt rfl<|Nl<|Wo rfl ‹_›<|Wx ?_
   rcases hc4 with ⟨e1,hno⟩|⟨e1,e2,hno⟩|⟨e1,e2,e3,hno⟩|⟨e1,e2,e3⟩
   rotate_right
   ·rw [if_pos ⟨by simpa using e1,e2,e3⟩] at hrd
    rw [hrd]
    repeat (refine Wq ?_)
    refine qW 301 314 rfl<|qF rfl ty87 rfl<|qL rfl ty3 rfl<|qE rfl<|qM rfl<|gF rfl ‹_› ty87 rfl<|gL rfl ‹_› ty4 rfl<|qT rfl ‹_› rfl<|qM rfl<|gF rfl ‹_› ty83 rfl<|gG rfl ‹_› ty54 rfl (Tl rfl)<|qU rfl ‹_› rfl (Bs rfl ty54 (.cons rfl rfl rfl rfl (Sl rfl) .nil))<|qU rfl ‹_› rfl (LO.eql_ad p.s ⟨true,0,0⟩ rfl rfl rfl)<|qT rfl ‹_› rfl<|Nl<|Wt rfl ‹_› ?_
    repeat (refine Wq ?_)
    refine qW 318 321 rfl<|Od rfl rfl (Bs rfl ty87 .nil)<|qS rfl ty87 (Sl rfl) rfl<|qA rfl<|Nl<|Wz ⟨.inl rfl,_,mt,(Rc (Ra0 rfl rfl ty87 rfl (Tl rfl)) (Rc (Rt rfl) Rv)),aM,?_⟩
    exact ⟨rfl,rfl⟩
   all_goals
    rw [if_neg hno] at hrd
    rw [hrd]
    repeat (refine Wq ?_)
    refine qW 301 314 rfl<|qF rfl ty87 rfl<|qL rfl ty3 rfl<|qE rfl<|qM rfl ?_
    first
     | (refine RW.sd rfl rfl rfl ?_ rfl ?_;(· (first|rfl|assumption)))
     | (refine RW.gd rfl rfl rfl ?_ rfl (LO.fieldAddr rfl rfl ty87 rfl (by decide)) ?_;(· (first|rfl|assumption)))
    first
     | (refine RW.sd rfl rfl rfl ?_ rfl ?_;(· (first|rfl|assumption)))
     | (refine RW.gd rfl rfl rfl ?_ rfl (LO.load rfl rfl rfl rfl ty4 rfl) ?_;(· (first|rfl|assumption)))
    first
     | (refine RW.opd rfl rfl (LO.pick_t rfl rfl ?_ rfl) ?_;(· (first|rfl|assumption)))
     | (refine RW.opd rfl rfl (LO.pick_f rfl rfl ?_ rfl) ?_;(· (first|rfl|assumption)))
    refine qM rfl ?_
    first
     | (refine RW.sd rfl rfl rfl ?_ rfl ?_;(· (first|rfl|assumption)))
     | (refine RW.gd rfl rfl rfl ?_ rfl (LO.fieldAddr rfl rfl ty83 rfl (by decide)) ?_;(· (first|rfl|assumption)))
    first
     | (refine RW.sd rfl rfl rfl ?_ rfl ?_;(· (first|rfl|assumption)))
     | (refine RW.gd rfl rfl rfl ?_ rfl (LO.load_agg rfl rfl rfl ty54 rfl (Tk.lit rfl)) ?_;(· (first|rfl|assumption)))
    first
     | (refine RW.sd rfl rfl rfl ?_ rfl ?_;(· (first|rfl|assumption)))
     | (refine RW.gd rfl rfl rfl ?_ rfl (LO.build_st rfl ty54 (.cons rfl rfl rfl rfl (Sp.lit rfl) .nil)) ?_;(· (first|rfl|assumption)))
    first
     | (refine RW.sd rfl rfl rfl ?_ rfl ?_;(· (first|rfl|assumption)))
     | (refine RW.gd rfl rfl rfl ?_ rfl (LO.eql_ad p.s ⟨true,0,0⟩ rfl rfl rfl) ?_;(· (first|rfl|assumption)))
    first
     | (refine RW.opd rfl rfl (LO.pick_t rfl rfl ?_ rfl) ?_;(· (first|rfl|assumption)))
     | (refine RW.opd rfl rfl (LO.pick_f rfl rfl ?_ rfl) ?_;(· (first|rfl|assumption)))
    refine Nl<|Wo rfl (by first|rfl|assumption)<|Wu ?_
    repeat (refine Wq ?_)
    refine qW 325 328 rfl<|qG rfl ty87 rfl (nb_tk h6)<|On rfl rfl (Sr rfl rfl rfl rfl rfl ty87 (nb_len h6) (by decide) (Sp.of_all (nb_len h6)))<|qA rfl<|Nl<|Wz ⟨.inl rfl,_,mt,(Rc (Ra0 rfl rfl ty87 rfl (nb_tk h6)) (Rc (Rt rfl) Rv)),aM,?_⟩
    exact ⟨rfl,rfl⟩
  ·obtain ⟨q,rfl⟩:∃ p,q=p + 1:=⟨q - 1,by omega⟩
   have g7:decide ((b.length:Int) > 0)=true:=decide_eq_true (by omega)
   have c0:=hb.at 0
   have c1:=hb.at 1
   have hr3:R=if b.length=0 then some (has,ln) else if b.length < 2∨gB b 1=0∨(b.length:Int) < gB b 1 * 8 then none else if has=false∧gB b 0=optN k∧gB b 1=1 then optF q (b.drop (gB b 1 * 8).toNat) (optN k) true ((b.drop 2).take 6) else optF q (b.drop (gB b 1 * 8).toNat) (optN k) has ln:=by rw [← hr];rfl
   rw [if_neg hz] at hr3
   obtain ⟨y0,hy0⟩:∃ y0,gB b 0=y0:=⟨_,rfl⟩
   obtain ⟨y1,hy1⟩:∃ y1,gB b 1=y1:=⟨_,rfl⟩
   by_cases hbad:b.length < 2∨gB b 1=0∨(b.length:Int) < gB b 1 * 8
   ·rw [if_pos hbad] at hr3
    rw [hr3] at hrd
    dsimp only at hrd
    rw [hrd]
    rw [hy1] at hbad c1
    have hc:b.length < 2∨(2≤b.length∧y1=0)∨(2≤b.length∧y1≠0∧(b.length:Int) < y1 * 8):=by omega
    rcases hc with m1|⟨m1,m2⟩|⟨m1,m2,m3⟩
    case' inl =>
     have n2:decide ((b.length:Int) < 2)=true:=decide_eq_true (by omega)
    case' inr.inl =>
     have n2:decide ((b.length:Int) < 2)=false:=decide_eq_false (by omega)
     have n3:(y1 == 0)=true:=by simpa using m2
     have hbt1:=by_at (l:=b) (k:=1) (by omega)
     rw [hy1] at hbt1
    case' inr.inr =>
     have n2:decide ((b.length:Int) < 2)=false:=decide_eq_false (by omega)
     have n3:(y1 == 0)=false:=by simpa using m2
     have n4:decide (8 * y1 > (b.length:Int))=true:=decide_eq_true (by omega)
     have hbt1:=by_at (l:=b) (k:=1) (by omega)
     rw [hy1] at hbt1
    all_goals
     repeat (refine Wq ?_)
     refine qW 218 221 rfl<|qM rfl<|qH rfl ty24<|qGt rfl<|Nl<|Wt rfl ‹_›<|Wu<|Wb ?_
     repeat (refine Wq ?_)
     refine qW 225 244 rfl<|qM rfl<|qH rfl ty24<|qK rfl<|qM rfl ?_
     first
      | (refine RW.sd rfl rfl rfl ?_ rfl ?_;(· (first|rfl|assumption)))
      | (refine RW.gd rfl rfl rfl ?_ rfl (LO.move rfl rfl) ?_;(· (first|rfl|assumption)))
     first
      | (refine RW.sd rfl rfl rfl ?_ rfl ?_;(· (first|rfl|assumption)))
      | (refine RW.gd rfl rfl rfl ?_ rfl (LO.indexAddr_isl rfl rfl rfl rfl rfl ty24 ty5 ?_) ?_;(· (first|rfl|assumption));(· (first|omega|decide|assumption|fail|(simp;done)|(simp;omega))))
     first
      | (refine RW.sd rfl rfl rfl ?_ rfl ?_;(· (first|rfl|assumption)))
      | (refine RW.gd rfl rfl rfl ?_ rfl (LO.load_imm rfl rfl (by first|exact hbt1) ty5 rfl) ?_;(· (first|rfl|assumption)))
     first
      | (refine RW.sd rfl rfl rfl ?_ rfl ?_;(· (first|rfl|assumption)))
      | (refine RW.gd rfl rfl rfl ?_ rfl (LO.eql rfl rfl rfl) ?_;(· (first|rfl|assumption)))
     first
      | (refine RW.opd rfl rfl (LO.pick_t rfl rfl ?_ rfl) ?_;(· (first|rfl|assumption)))
      | (refine RW.opd rfl rfl (LO.pick_f rfl rfl ?_ rfl) ?_;(· (first|rfl|assumption)))
     refine qM rfl ?_
     first
      | (refine RW.sd rfl rfl rfl ?_ rfl ?_;(· (first|rfl|assumption)))
      | (refine RW.gd rfl rfl rfl ?_ rfl (LO.move rfl rfl) ?_;(· (first|rfl|assumption)))
     first
      | (refine RW.sd rfl rfl rfl ?_ rfl ?_;(· (first|rfl|assumption)))
      | (refine RW.gd rfl rfl rfl ?_ rfl (LO.indexAddr_isl rfl rfl rfl rfl rfl ty24 ty5 ?_) ?_;(· (first|rfl|assumption));(· (first|omega|decide|assumption|fail|(simp;done)|(simp;omega))))
     first
      | (refine RW.sd rfl rfl rfl ?_ rfl ?_;(· (first|rfl|assumption)))
      | (refine RW.gd rfl rfl rfl ?_ rfl (LO.load_imm rfl rfl (by first|exact hbt1) ty5 rfl) ?_;(· (first|rfl|assumption)))
     first
      | (refine RW.sd rfl rfl rfl ?_ rfl ?_;(· (first|rfl|assumption)))
      | (refine RW.gd rfl rfl rfl ?_ rfl (LO.conv_in rfl rfl ty5 ty3 ?_) ?_;(· (first|rfl|assumption));(· (first|exact IntWalk.i64_in _ (by omega)|assumption)))
     first
      | (refine RW.sd rfl rfl rfl ?_ rfl ?_;(· (first|rfl|assumption)))
      | (refine RW.gd rfl rfl rfl ?_ rfl (LO.mul_in rfl rfl rfl ?_) ?_;(· (first|rfl|assumption));(· (first|exact IntWalk.i64_in _ (by omega)|assumption)))
     first
      | (refine RW.sd rfl rfl rfl ?_ rfl ?_;(· (first|rfl|assumption)))
      | (refine RW.gd rfl rfl rfl ?_ rfl (LO.move rfl rfl) ?_;(· (first|rfl|assumption)))
     first
      | (refine RW.sd rfl rfl rfl ?_ rfl ?_;(· (first|rfl|assumption)))
      | (refine RW.gd rfl rfl rfl ?_ rfl (LO.len_isl rfl rfl rfl ty24) ?_;(· (first|rfl|assumption)))
     first
      | (refine RW.sd rfl rfl rfl ?_ rfl ?_;(· (first|rfl|assumption)))
      | (refine RW.gd rfl rfl rfl ?_ rfl (LO.gtr rfl rfl rfl) ?_;(· (first|rfl|assumption)))
     first
      | (refine RW.opd rfl rfl (LO.pick_t rfl rfl ?_ rfl) ?_;(· (first|rfl|assumption)))
      | (refine RW.opd rfl rfl (LO.pick_f rfl rfl ?_ rfl) ?_;(· (first|rfl|assumption)))
     refine Nl<|Wt rfl (by first|rfl|assumption) ?_
     repeat (refine Wq ?_)
     refine qW 248 251 rfl<|Od rfl rfl (Bs rfl ty87 .nil)<|qS rfl ty87 (Sl rfl) rfl<|qA rfl<|Nl<|Wz ⟨.inl rfl,_,mt,(Rc (Ra0 rfl rfl ty87 rfl (Tl rfl)) (Rc (Rt rfl) Rv)),aM,?_⟩
     exact ⟨rfl,rfl⟩
   ·rw [if_neg hbad] at hr3
    rw [hy1] at hbad c1
    rw [hy0] at c0
    have m1:2≤b.length:=by omega
    have n2:decide ((b.length:Int) < 2)=false:=decide_eq_false (by omega)
    have n3:(y1 == 0)=false:=by simp;omega
    have n4:decide (8 * y1 > (b.length:Int))=false:=decide_eq_false (by omega)
    have hbt1:=by_at (l:=b) (k:=1) (by omega)
    have hbt0:=by_at (l:=b) (k:=0) (by omega)
    rw [hy1] at hbt1 hr3
    rw [hy0] at hbt0 hr3
    obtain ⟨w,hw⟩:∃ w:Nat,8 * y1=(w:Int):=⟨(8 * y1).toNat,by omega⟩
    have hwt:(y1 * 8).toNat=w:=by omega
    rw [hwt] at hr3
    have hdl:(b.drop w).length=b.length - w:=by simp
    repeat (refine Wq ?_)
    refine qW 218 221 rfl<|qM rfl<|qH rfl ty24<|qGt rfl<|Nl<|Wt rfl ‹_›<|Wu<|Wb ?_
    repeat (refine Wq ?_)
    refine qW 225 244 rfl<|qM rfl<|qH rfl ty24<|qK rfl<|qM rfl<|gM rfl ‹_›<|qU rfl ‹_› rfl (Ii rfl rfl rfl rfl rfl ty24 ty5 ‹_›)<|qU rfl ‹_› rfl (Li rfl rfl hbt1 ty5 rfl)<|gE rfl ‹_›<|qP rfl ‹_› rfl<|qM rfl<|gM rfl ‹_›<|qU rfl ‹_› rfl (Ii rfl rfl rfl rfl rfl ty24 ty5 ‹_›)<|qU rfl ‹_› rfl (Li rfl rfl hbt1 ty5 rfl)<|qU rfl ‹_› rfl (Ci rfl rfl ty5 ty3 (iW _ (by omega)))<|qU rfl ‹_› rfl (LO.mul_in rfl rfl rfl (iW _ (by omega)))<|gM rfl ‹_›<|gH rfl ‹_› ty24<|gGt rfl ‹_›<|qP rfl ‹_› rfl<|Nl<|Wo rfl ‹_›<|Wu ?_
    by_cases hcond:has=false∧y0=optN k∧y1=1
    ·obtain ⟨e1,e2,e3⟩:=hcond
     rw [if_pos ⟨e1,e2,e3⟩] at hr3
     have u1:(!has)=true:=by rw [e1];rfl
     have u2:(y0 == optN k)=true:=by simpa using e2
     have u3:(y1 == 1)=true:=by simpa using e3
     repeat (refine Wq ?_)
     refine Wd 255 273 (by decide) rfl mixed rfl<|qM rfl<|qJ rfl rfl ty24 ty5 (by simp;omega)<|Od rfl rfl (Li rfl rfl hbt0 ty5 rfl)<|qF rfl ty87 rfl<|qL rfl ty3 rfl<|qY rfl (hop) fok82 rfl<|qE rfl<|qM rfl<|gM rfl ‹_›<|qU rfl ‹_› rfl (Ii rfl rfl rfl rfl rfl ty24 ty5 ‹_›)<|qU rfl ‹_› rfl (Li rfl rfl hbt1 ty5 rfl)<|gE rfl ‹_›<|qT rfl ‹_› rfl<|qM rfl<|gF rfl ‹_› ty87 rfl<|gL rfl ‹_› ty4 rfl<|gO rfl ‹_›<|qT rfl ‹_› rfl<|Nl ⟨by kernel_rfl,(Wt rfl ‹_› ?_)⟩
     have hl6:((b.drop 2).take (8 - 2)).length=6:=by simp;omega
     refine Wd 277 285 (by decide) rfl mixed rfl<|qM rfl<|Od rfl rfl (Lsi rfl rfl rfl (Ba rfl rfl) (Ba rfl rfl) (by decide) (by simp;omega) ty24 ty5 (by_part (l:=b) (k:=2) (m:=8) (by decide) (by omega)))<|Od rfl rfl (LO.toArr rfl rfl rfl ty23 (by decide) (by decide))<|Od rfl rfl (Lg rfl rfl ty23 rfl (bytes_tk hl6))<|qF rfl ty87 rfl<|qS rfl ty4 sp_has rfl<|qF rfl ty87 rfl<|On rfl rfl (Sr rfl rfl rfl rfl rfl ty23 (show (bytesC ((b.drop 2).take (8 - 2))).length=6 from by rw [bytesC_len,hl6]) (by decide) (sp_mac (l:=ln) (m:=(b.drop 2).take (8 - 2)) h6 hl6))<|Nl ⟨by kernel_rfl,(qW 289 297 rfl<|qM rfl<|qM rfl<|qJ rfl rfl ty24 ty5 ‹_›<|Od rfl rfl (Li rfl rfl hbt1 ty5 rfl)<|Od rfl rfl (Ci rfl rfl ty5 ty3 (iW _ (by omega)))<|Od rfl rfl (LO.mul_in rfl rfl rfl (iW _ (by omega)))<|Od rfl rfl (Lsi rfl rfl rfl (Ba rfl hw) Bnd.no (by omega) (by omega) ty24 ty5 (by_drop (l:=b) (k:=w) rfl))<|qA rfl<|Nl ?_)⟩
     rw [← hdl]
     refine WL.renameL [(0,0),(1,1),(2,2)] 3 (by decide) ?_ ?_ (ihA ((b.drop w),true,((b.drop 2).take (8 - 2)),q,fl,tg) (show (b.drop w).length < b.length from by omega) (show ((b.drop w).length≤q∧(b.drop w).length≤100000)∧IsB (b.drop w)∧((b.drop 2).take (8 - 2)).length=6∧optF q (b.drop w) (optN k) true ((b.drop 2).take (8 - 2))=R∧fl=FL∧tg=TG from ⟨⟨by omega,by omega⟩,hb.drop _,hl6,hr3.symm,hf0,ht0⟩))
     ·exact lC (lI rfl) (lC (lI rfl) (lC (lI rfl) (lC (lR rfl) lN)))
     ·exact aU (kP rfl (bytesC_pure _)) (aU (kR rfl) (aU (kR rfl) aM))
    ·rw [if_neg hcond] at hr3
     have hcs:(y0 == optN k)=false∨((y0 == optN k)=true∧(y1 == 1)=false)∨((y0 == optN k)=true∧(y1 == 1)=true∧(!has)=false):=by
      by_cases e1:y0=optN k
      ·by_cases e2:y1=1
       ·cases has
        ·exact absurd ⟨rfl,e1,e2⟩ hcond
        ·exact .inr (.inr ⟨by simpa using e1,by simpa using e2,rfl⟩)
       ·exact .inr (.inl ⟨by simpa using e1,by simpa using e2⟩)
      ·exact .inl (by simpa using e1)
     rcases hcs with u1|⟨u1,u2⟩|⟨u1,u2,u3⟩
     all_goals
      repeat (refine Wq ?_)
      refine Wd 255 273 (by decide) rfl mixed rfl<|qM rfl<|qJ rfl rfl ty24 ty5 (by simp;omega)<|Od rfl rfl (Li rfl rfl hbt0 ty5 rfl)<|qF rfl ty87 rfl<|qL rfl ty3 rfl<|qY rfl (hop) fok82 rfl<|qE rfl<|qM rfl ?_
      first
       | (refine RW.sd rfl rfl rfl ?_ rfl ?_;(· (first|rfl|assumption)))
       | (refine RW.gd rfl rfl rfl ?_ rfl (LO.move rfl rfl) ?_;(· (first|rfl|assumption)))
      first
       | (refine RW.sd rfl rfl rfl ?_ rfl ?_;(· (first|rfl|assumption)))
       | (refine RW.gd rfl rfl rfl ?_ rfl (LO.indexAddr_isl rfl rfl rfl rfl rfl ty24 ty5 ?_) ?_;(· (first|rfl|assumption));(· (first|omega|decide|assumption|fail|(simp;done)|(simp;omega))))
      first
       | (refine RW.sd rfl rfl rfl ?_ rfl ?_;(· (first|rfl|assumption)))
       | (refine RW.gd rfl rfl rfl ?_ rfl (LO.load_imm rfl rfl hbt1 ty5 rfl) ?_;(· (first|rfl|assumption)))
      first
       | (refine RW.sd rfl rfl rfl ?_ rfl ?_;(· (first|rfl|assumption)))
       | (refine RW.gd rfl rfl rfl ?_ rfl (LO.eql rfl rfl rfl) ?_;(· (first|rfl|assumption)))
      first
       | (refine RW.opd rfl rfl (LO.pick_t rfl rfl ?_ rfl) ?_;(· (first|rfl|assumption)))
       | (refine RW.opd rfl rfl (LO.pick_f rfl rfl ?_ rfl) ?_;(· (first|rfl|assumption)))
      refine qM rfl ?_
      first
       | (refine RW.sd rfl rfl rfl ?_ rfl ?_;(· (first|rfl|assumption)))
       | (refine RW.gd rfl rfl rfl ?_ rfl (LO.fieldAddr rfl rfl ty87 rfl (by decide)) ?_;(· (first|rfl|assumption)))
      first
       | (refine RW.sd rfl rfl rfl ?_ rfl ?_;(· (first|rfl|assumption)))
       | (refine RW.gd rfl rfl rfl ?_ rfl (LO.load rfl rfl rfl rfl ty4 rfl) ?_;(· (first|rfl|assumption)))
      first
       | (refine RW.sd rfl rfl rfl ?_ rfl ?_;(· (first|rfl|assumption)))
       | (refine RW.gd rfl rfl rfl ?_ rfl (LO.not rfl rfl) ?_;(· (first|rfl|assumption)))
      first
       | (refine RW.opd rfl rfl (LO.pick_t rfl rfl ?_ rfl) ?_;(· (first|rfl|assumption)))
       | (refine RW.opd rfl rfl (LO.pick_f rfl rfl ?_ rfl) ?_;(· (first|rfl|assumption)))
      refine Nl ⟨by kernel_rfl,(Wo rfl (by first|rfl|assumption)<|Wu<|qW 289 297 rfl<|qM rfl<|qM rfl<|qJ rfl rfl ty24 ty5 ‹_›<|Od rfl rfl (Li rfl rfl hbt1 ty5 rfl)<|Od rfl rfl (Ci rfl rfl ty5 ty3 (iW _ (by omega)))<|Od rfl rfl (LO.mul_in rfl rfl rfl (iW _ (by omega)))<|Od rfl rfl (Lsi rfl rfl rfl (Ba rfl hw) Bnd.no (by omega) (by omega) ty24 ty5 (by_drop (l:=b) (k:=w) rfl))<|qA rfl<|Nl ?_)⟩
      rw [← hdl]
      refine WL.renameL [(0,0),(1,1),(2,2)] 3 (by decide) ?_ ?_ (ihA ((b.drop w),has,ln,q,fl,tg) (show (b.drop w).length < b.length from by omega) (show ((b.drop w).length≤q∧(b.drop w).length≤100000)∧IsB (b.drop w)∧ln.length=6∧optF q (b.drop w) (optN k) has ln=R∧fl=FL∧tg=TG from ⟨⟨by omega,by omega⟩,hb.drop _,h6,hr3.symm,hf0,ht0⟩))
      ·exact lC (lI rfl) (lC (lI rfl) (lC (lI rfl) (lC (lR rfl) lN)))
      ·exact aU (kP rfl (bytesC_pure _)) (aU (kR rfl) (aU (kR rfl) aM))
theorem decX_any (p:Pk) (hB:IsB p.bs) (s1:U64 p.s.hi) (s2:U64 p.s.lo) (d1:U64 p.d.hi) (d2:U64 p.d.lo):AFn Tryz.prog 38 0 [.agg (pkC p)] mt (decV p) mt:=by
 by_cases hE:chkE p=0
 ·by_cases hsz:p.bs.length < 4 + fixN (gB p.bs 0)
  ·exact decX_short p hB s1 s2 d1 d2 hE hsz
  ·exact decX_ok p hB s1 s2 d1 d2 hE hsz
 ·cases hv:vpk p with
  | false=>exact decX_bad1 p hv
  | true =>
   by_cases hk:chkE p=5∧(!p.s.v6)=false∧(p.p != 58)=false
   ·exact decX_bad3 p hB s1 s2 d1 d2 hv hk.1 hk.2.1 hk.2.2
   ·exact decX_bad2 p hB s1 s2 d1 d2 hv hE hk
theorem cloneM_any (b:List (List Int)) (h6:∀ m,m∈b→m.length=6) (h:0 < b.length) (hl:b.length≤1000):AFn Tryz.prog 138 0 [.isl (macsC b) b.length] mt (.isl (macsC b) b.length) mt:=by
 refine AFn.eq Tryz.func138 rfl rfl (Nat.le_of_ble_eq_true rfl) ?_
 have hz:=macsC_len h6
 refine Wq<|qW 0 1 rfl<|qA rfl<|Nl<|Wq<|Wq<|qW 5 7 rfl<|qM rfl<|Od rfl rfl (LO.eqNilI rfl rfl rfl h rfl ty36)<|Nl<|Wo rfl rfl<|Wu<|Wq<|qW 16 20 rfl<|Od rfl rfl (LO.buildSlice rfl ty36 ty23 (by decide) (by decide) .nil)<|qM rfl<|Od rfl rfl (Lap rfl rfl (Ssi rfl rfl hz) rfl (Tl rfl) ty36 ty36 ty23 (by decide) (by omega) (by omega) (by decide))<|qA rfl<|Nl ?_
 rw [List.nil_append,show 0 + b.length=b.length from Nat.zero_add _]
 refine Wy (t:=2) rfl rfl (macs_all h6) (macsC_pure _)<|Wz ⟨.inl rfl,_,mt,Rc (Rt rfl) (Rv),aM,?_⟩
 exact ⟨rfl,rfl⟩
theorem andNotM (x j:Nat) (hx:x < 2 ^ 64) (hj:j≤64):bitV .andNot .u64 (x:Int) ((2 ^ j - 1:Nat):Int)=((x / 2 ^ j * 2 ^ j:Nat):Int):=by
 have e1:(BitVec.ofInt 64 (x:Int)).toNat=x:=by rw [BitVec.ofInt_natCast,BitVec.toNat_ofNat];exact Nat.mod_eq_of_lt hx
 have hm:2 ^ j≤2 ^ 64:=Nat.pow_le_pow_right (by decide) hj
 have e2:(BitVec.ofInt 64 ((2 ^ j - 1:Nat):Int)).toNat=2 ^ j - 1:=by rw [BitVec.ofInt_natCast,BitVec.toNat_ofNat];exact Nat.mod_eq_of_lt (by have:=Nat.two_pow_pos j;omega)
 have key:(BitVec.ofInt 64 (x:Int) &&& ~~~BitVec.ofInt 64 ((2 ^ j - 1:Nat):Int)).toNat=x / 2 ^ j * 2 ^ j:=by
  refine Nat.eq_of_testBit_eq fun i=>?_
  rw [← Nat.shiftRight_eq_div_pow,← Nat.shiftLeft_eq,Nat.testBit_shiftLeft,Nat.testBit_shiftRight]
  rw [BitVec.testBit_toNat,BitVec.getLsbD_and,BitVec.getLsbD_not,← BitVec.testBit_toNat,← BitVec.testBit_toNat,e1,e2,Nat.testBit_two_pow_sub_one]
  by_cases h1:j≤i
  ·rw [show j + (i - j)=i from by omega]
   by_cases h2:i < 64
   ·simp [h1,h2]
   ·rw [Nat.testBit_lt_two_pow (Nat.lt_of_lt_of_le hx (Nat.pow_le_pow_right (by decide) (by omega)))];simp
  ·simp [h1];omega
 show IntKind.u64.wrap ((BitVec.ofInt 64 (x:Int) &&& ~~~BitVec.ofInt 64 ((2 ^ j - 1:Nat):Int)).toNat:Int)=_
 rw [key,IntKind.wrap_u64]
 have:=Nat.div_mul_le_self x (2 ^ j)
 omega
theorem andNot8 {x:Int} (h:U64 x):bitV .andNot .u64 x 255=x / 256 * 256:=by
 obtain ⟨n,rfl⟩:=Int.eq_ofNat_of_zero_le h.1
 have:=andNotM n 8 (by have:=h.2;omega) (by decide)
 simpa using this
theorem andNot0 {x:Int} (h:U64 x):bitV .andNot .u64 x 0=x:=by
 obtain ⟨n,rfl⟩:=Int.eq_ofNat_of_zero_le h.1
 have:=andNotM n 0 (by have:=h.2;omega) (by decide)
 simpa using this
theorem andNot64 {x:Int} (h:U64 x):bitV .andNot .u64 x 18446744073709551615=0:=by
 obtain ⟨n,rfl⟩:=Int.eq_ofNat_of_zero_le h.1
 have:=andNotM n 64 (by have:=h.2;omega) (by decide)
 have e:n / 2 ^ 64=0:=Nat.div_eq_of_lt (by have:=h.2;omega)
 rw [e] at this
 simpa using this
def in4 (a:Ad):Bool:=decide (a.lo / 256=12582914)
def in6 (a:Ad):Bool:=decide (a.hi=2306139568115548160)
theorem clr_byte:∀ x:Fin 256,(List.range' 0 8).foldl (fun (z:Int) i=>bitV .andNot .u8 z (bitAt i)) (x.val:Int)=0:=by decide +kernel
theorem chgs_add (op:BinOp) (l:List Int) (n a b:Nat):chgs op l n (a + b)=chgs op (chgs op l n a) (n + a) b:=by
 unfold chgs
 rw [List.range'_append_1.symm,List.foldl_append]
theorem chgs_byte {l:List Int} (hB:IsB l) {k:Nat} (hk:k < l.length):chgs .andNot l (8 * k) 8=l.set k 0:=by
 have hx:=hB.at k
 have h0:=clr_byte ⟨(gB l k).toNat,by omega⟩
 have e:(((gB l k).toNat:Nat):Int)=gB l k:=by omega
 dsimp only at h0
 rw [e] at h0
 have gen:∀ (m:Nat),m≤8→chgs .andNot l (8 * k) m=l.set k ((List.range' 0 m).foldl (fun (z:Int) i=>bitV .andNot .u8 z (bitAt i)) (gB l k)):=by
  intro m
  induction m with
  | zero=>intro _;simp [chgs,gB,hk]
  | succ m ih =>
   intro hm
   rw [chgs_snoc,ih (by omega),List.range'_concat,List.foldl_append]
   unfold chgL
   have e1:(8 * k + m) / 8=k:=by omega
   have e2:bitAt (8 * k + m)=bitAt (0 + 1 * m):=by
    unfold bitAt
    rw [show ((8 * k + m:Nat):Int) % 8=((0 + 1 * m:Nat):Int) % 8 from by omega]
   rw [e1,e2,List.set_set]
   congr 1
   simp [gB,hk]
 rw [gen 8 (by decide),h0]
theorem in4_eq {a:Ad} (h6:a.v6=false) (hv:validA a.v6 a.hi a.lo=true) (h1:U64 a.hi) (h2:U64 a.lo):eqPre (mkP a 24) lan4=in4 a:=by
 have hfb:=fb_addrB hv h1 h2
 have hl:addrL a=addrB a.v6 a.hi a.lo:=rfl
 have hB:IsB (addrL a):=by rw [hl];exact beN_isB _ _
 rw [← hl] at hfb
 have hlen:(addrL a).length=4:=by rw [addrL_len,h6];rfl
 have hm:mkL .andNot a 24=(addrL a).set 3 0:=by
  unfold mkL
  rw [hlen]
  exact chgs_byte hB (k:=3) (by omega)
 have key:mkAd .andNot a 24=⟨false,0,a.lo / 256 * 256⟩:=by
  unfold mkAd
  rw [hm,h6]
  generalize addrL a=l at *
  match l,hlen with
  | [a0,b0,c0,d0],_ =>
   have e1:=fb4 hB
   have hd:=hB d0 (by simp)
   have hB2:IsB [a0,b0,c0,0]:=fun x hx=>by
    simp only [List.mem_cons,List.not_mem_nil,or_false] at hx
    rcases hx with rfl|rfl|rfl|rfl
    ·exact hB _ (by simp)
    ·exact hB _ (by simp)
    ·exact hB _ (by simp)
    ·decide
   have e2:=fb4 hB2
   rw [hfb] at e1
   dsimp only at e1
   show (⟨false,(fb [a0,b0,c0,0]).1,(fb [a0,b0,c0,0]).2⟩:Ad)=_
   rw [e2.1,e2.2,e1.2]
   congr 1
   omega
 unfold mkP
 rw [key]
 unfold eqPre in4 lan4 eqA
 rw [Bool.eq_iff_iff]
 simp
 omega
theorem zeros8 {s:Int × Int} {h:Int} (h1:U64 s.1) (h2:U64 s.2) (hh:U64 h) (e:s.1 * 18446744073709551616 + s.2=h):([0,0,0,0,0,0,0,0]:List Int).foldl fbStep s=(h,0):=by
 have z:(0:Int)≤0∧(0:Int)≤255:=by decide
 show fbStep (fbStep (fbStep (fbStep (fbStep (fbStep (fbStep (fbStep s 0) 0) 0) 0) 0) 0) 0) 0=_
 have k1:=fbStep_val h1 h2 z
 obtain ⟨u1,v1⟩:=fbStep_bd s 0
 generalize fbStep s 0=s1 at *
 have k2:=fbStep_val u1 v1 z
 obtain ⟨u2,v2⟩:=fbStep_bd s1 0
 generalize fbStep s1 0=s2 at *
 have k3:=fbStep_val u2 v2 z
 obtain ⟨u3,v3⟩:=fbStep_bd s2 0
 generalize fbStep s2 0=s3 at *
 have k4:=fbStep_val u3 v3 z
 obtain ⟨u4,v4⟩:=fbStep_bd s3 0
 generalize fbStep s3 0=s4 at *
 have k5:=fbStep_val u4 v4 z
 obtain ⟨u5,v5⟩:=fbStep_bd s4 0
 generalize fbStep s4 0=s5 at *
 have k6:=fbStep_val u5 v5 z
 obtain ⟨u6,v6⟩:=fbStep_bd s5 0
 generalize fbStep s5 0=s6 at *
 have k7:=fbStep_val u6 v6 z
 obtain ⟨u7,v7⟩:=fbStep_bd s6 0
 generalize fbStep s6 0=s7 at *
 have k8:=fbStep_val u7 v7 z
 obtain ⟨u8,v8⟩:=fbStep_bd s7 0
 generalize fbStep s7 0=s8 at *
 unfold U64 at *
 have e8:s8.1 * 18446744073709551616 + s8.2=h * 18446744073709551616:=by omega
 obtain ⟨x,y⟩:=s8
 dsimp only at *
 have e1:x=h:=by omega
 have e2:y=0:=by omega
 rw [e1,e2]
theorem in6_eq {a:Ad} (h6:a.v6=true) (h1:U64 a.hi) (h2:U64 a.lo):eqPre (mkP a 64) lan6=in6 a:=by
 have hl:addrL a=beN 16 (a.hi * 18446744073709551616 + a.lo):=by unfold addrL addrB;rw [h6];rfl
 have hB:IsB (addrL a):=addrL_isB a
 have hlen:(addrL a).length=16:=by rw [addrL_len,h6];rfl
 have hp:(256:Int) ^ 16=340282366920938463463374607431768211456:=by decide
 have hp8:(256:Int) ^ (16 - 8)=18446744073709551616:=by decide
 have h8:=fb_beN 16 (a.hi * 18446744073709551616 + a.lo) (by omega) (by unfold U64 at h1 h2;omega) (by unfold U64 at h1 h2;omega) 8 (by omega)
 rw [← hl,hp8] at h8
 have h8:(fb ((addrL a).take 8)).1 * 18446744073709551616 + (fb ((addrL a).take 8)).2=a.hi:=by rw [h8];unfold U64 at h1 h2;omega
 have hb:=fb_bd ((addrL a).take 8)
 have hm:mkL .andNot a 64=(addrL a).take 8++[0,0,0,0,0,0,0,0]:=by
  unfold mkL
  rw [hlen]
  generalize addrL a=l at *
  have c1:=chgs_byte hB (k:=8) (by omega)
  have B1:IsB (l.set 8 0):=hB.set 8 (by decide)
  have c2:=chgs_byte B1 (k:=9) (by simp;omega)
  have B2:=B1.set 9 (v:=0) (by decide)
  have c3:=chgs_byte B2 (k:=10) (by simp;omega)
  have B3:=B2.set 10 (v:=0) (by decide)
  have c4:=chgs_byte B3 (k:=11) (by simp;omega)
  have B4:=B3.set 11 (v:=0) (by decide)
  have c5:=chgs_byte B4 (k:=12) (by simp;omega)
  have B5:=B4.set 12 (v:=0) (by decide)
  have c6:=chgs_byte B5 (k:=13) (by simp;omega)
  have B6:=B5.set 13 (v:=0) (by decide)
  have c7:=chgs_byte B6 (k:=14) (by simp;omega)
  have B7:=B6.set 14 (v:=0) (by decide)
  have c8:=chgs_byte B7 (k:=15) (by simp;omega)
  rw [show 8 * 16 - 64=8 + 56 from rfl,chgs_add,show (64:Nat)=8 * 8 from rfl,c1]
  rw [show (56:Nat)=8 + 48 from rfl,chgs_add,show 8 * 8 + 8=8 * 9 from rfl,c2]
  rw [show (48:Nat)=8 + 40 from rfl,chgs_add,show 8 * 9 + 8=8 * 10 from rfl,c3]
  rw [show (40:Nat)=8 + 32 from rfl,chgs_add,show 8 * 10 + 8=8 * 11 from rfl,c4]
  rw [show (32:Nat)=8 + 24 from rfl,chgs_add,show 8 * 11 + 8=8 * 12 from rfl,c5]
  rw [show (24:Nat)=8 + 16 from rfl,chgs_add,show 8 * 12 + 8=8 * 13 from rfl,c6]
  rw [show (16:Nat)=8 + 8 from rfl,chgs_add,show 8 * 13 + 8=8 * 14 from rfl,c7]
  rw [show 8 * 14 + 8=8 * 15 from rfl,c8]
  match l,hlen with
  | [x0,x1,x2,x3,x4,x5,x6,x7,x8,x9,x10,x11,x12,x13,x14,x15],_=>rfl
 have key:mkAd .andNot a 64=⟨true,a.hi,0⟩:=by
  unfold mkAd
  rw [hm,h6]
  have e:fb ((addrL a).take 8++[0,0,0,0,0,0,0,0])=(a.hi,0):=by
   unfold fb
   rw [List.foldl_append]
   exact zeros8 hb.1 hb.2 h1 h8
  rw [e]
 unfold mkP
 rw [key]
 unfold eqPre in6 lan6 eqA
 rw [Bool.eq_iff_iff]
 simp
end Go.Proofs.YtlcndmciognneaaGreatDoor
