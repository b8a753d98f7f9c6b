/-
  Reading a message, by the document: a packet that is right so far, with enough bytes. Reading a message, by the document. Where a frame goes, by the document. The rule of a port, copied. Which addresses lie in the blocks of the exchange (plain). Reserved stations, the blocks of the exchange, addresses in a list. What may come from a port: plain frames, address resolution. What may come from a port: neighbour discovery. What may come from a port: neighbour discovery by the document, and the check as a whole by both.
-/
import Derived.Test.YtlcndmciognneaaGreatDoorRc
import Derived.Test.YtlcndmciognneaaGreatDoorMab
import Derived.Test.YtlcndmciognneaaGreatDoorJr
import Derived.Test.YtlcndmciognneaaGreatDoorCe
namespace Go.Proofs.YtlcndmciognneaaGreatDoor
open Go.RowKit
set_option maxHeartbeats 8000000 in
theorem decX_ok (p:Pk) (hB:IsB p.bs) (s1:U64 p.s.hi) (s2:U64 p.s.lo) (d1:U64 p.d.hi) (d2:U64 p.d.lo) (hE:chkE p=0) (hsz:¬ p.bs.length < 4 + fixN (gB p.bs 0)):AFn Tryz.prog 38 0 [.agg (pkC p)] mt (decV p) mt:=by
 refine AFn.eq Tryz.func38 rfl rfl (Nat.le_of_ble_eq_true rfl) ?_
 obtain ⟨hv,g1,g2,g3,g4,g5,hl4,k1,k2,k3⟩:=chkE_ok hE
 have hvp:=rpvalid_any p
 rw [hv] at hvp
 obtain ⟨v1,v2,v3⟩:=vpk_parts hv
 have hck:=chkX_any p.s p.d 58 p.bs v1 v2 s1 s2 d1 d2 hB (by omega)
 unfold adC at hck
 have hdv:decV p=.tup [.agg (nbC (rdB p.s (gB p.bs 0) (p.bs.drop 4)).1),.base (.int .i64 (rdB p.s (gB p.bs 0) (p.bs.drop 4)).2)]:=by unfold decV decR;rw [hE];rfl
 rw [hdv]
 have hat0:=by_at (l:=p.bs) (k:=0) (by omega)
 have hat1:=by_at (l:=p.bs) (k:=1) (by omega)
 have b0:=hB.at 0
 obtain ⟨k,hk⟩:∃ k,gB p.bs 0=k:=⟨_,rfl⟩
 have hfn:fixN k≤36∧4≤fixN k:=by unfold fixN;split<;>(try split)<;>(try split)<;>omega
 rw [hk] at k1 k2 hat0 b0 hsz ⊢
 have hfx:=fixedX_any k
 have htg:=targetedX_any k
 have hop:=optionX_any k
 have g6:decide ((p.bs.length:Int) < 4 + (fixN k:Int))=false:=decide_eq_false (by omega)
 have h133:133≤k∧k≤137:=by have:=of_decide_eq_false k1;have:=of_decide_eq_false k2;omega
 refine Wq<|qW 0 3 rfl<|qC rfl<|qB rfl ty87<|qA rfl<|Nl<|Wq<|qW 7 10 rfl<|qF rfl ty83 rfl<|qL rfl ty24 rfl<|qA rfl<|Nl<|Wq<|Wb<|Wq<|qW 14 18 rfl<|qG rfl ty83 rfl (Tl rfl)<|Od rfl rfl (C0 (fr:=[]) rfl rfl (hvp) fok77 (.cons rfl (.pure (pkC_pure p)) .nil) rfl)<|qO rfl<|qA rfl<|Nl<|Wo rfl rfl<|Wq<|qW 29 39 rfl<|qF rfl ty83 rfl<|qF rfl ty54 rfl<|qL rfl ty4 rfl<|qO rfl<|qM rfl<|gF rfl ‹_› ty83 rfl<|gL rfl ‹_› ty3 rfl<|gN rfl ‹_›<|qP rfl ‹_› rfl<|qA rfl<|Nl<|Wo rfl ‹_›<|Wq<|qW 50 54 rfl<|qF rfl ty83 rfl<|qL rfl ty3 rfl<|qN rfl<|qA rfl<|Nl<|Wo rfl ‹_›<|Wq<|qW 65 69 rfl<|qM rfl<|qH rfl ty24<|qK rfl<|qA rfl<|Nl<|Wo rfl ‹_›<|Wq<|qW 80 88 rfl<|qF rfl ty83 rfl<|qG rfl ty54 rfl (Tl rfl)<|qF rfl ty83 rfl<|qG rfl ty54 rfl (Tl rfl)<|qM rfl<|qY rfl (hck) fok78 rfl<|qN rfl<|qA rfl<|Nl<|Wo rfl ‹_›<|Wq<|qW 99 116 rfl<|qM rfl<|qJ rfl rfl ty24 ty5 (by simp;omega)<|Od rfl rfl (Li rfl rfl hat0 ty5 rfl)<|qK rfl<|qM rfl<|gM rfl ‹_›<|qU rfl ‹_› rfl (Ii rfl rfl rfl rfl rfl ty24 ty5 (by simp;omega))<|qU rfl ‹_› rfl (Li rfl rfl hat0 ty5 rfl)<|gGt rfl ‹_›<|qP rfl ‹_› rfl<|qM rfl<|gM rfl ‹_›<|qU rfl ‹_› rfl (Ii rfl rfl rfl rfl rfl ty24 ty5 (by simp;omega))<|qU rfl ‹_› rfl (Li rfl rfl hat1 ty5 rfl)<|gN rfl ‹_›<|qP rfl ‹_› rfl<|qA rfl<|Nl<|Wo rfl ‹_›<|Wu<|Wq<|qW 127 134 rfl<|qM rfl<|qJ rfl rfl ty24 ty5 (by simp;omega)<|Od rfl rfl (Li rfl rfl hat0 ty5 rfl)<|Od rfl rfl (Ci rfl rfl ty5 ty3 (iW _ (by omega)))<|Od rfl rfl (Bs rfl ty87 (.cons rfl rfl rfl rfl (Sl rfl) .nil))<|qB rfl ty87<|qS rfl ty87 (Sl rfl) rfl<|Nl<|Wq<|Wq<|qW 138 145 rfl<|qM rfl<|qH rfl ty24<|qF rfl ty87 rfl<|qL rfl ty3 rfl<|qY rfl (hfx) fok79 rfl<|qZ rfl (iW _ (by omega))<|qK rfl<|Nl<|Wo rfl ‹_›<|Wu<|Wq<|Wq<|qW 156 159 rfl<|qF rfl ty87 rfl<|qL rfl ty3 rfl<|qY rfl (htg) fok80 rfl<|Nl ?_
 obtain ⟨B,hBe⟩:∃ B,p.bs.drop 4=B:=⟨_,rfl⟩
 have hBl:B.length=p.bs.length - 4:=by rw [← hBe];simp
 have hBB:IsB B:=by rw [← hBe];exact hB.drop 4
 have hd8:p.bs.drop 8=B.drop 4:=by rw [← hBe,List.drop_drop]
 have hdr:p.bs.drop (4 + fixN k)=B.drop (fixN k):=by rw [← hBe,List.drop_drop]
 have hg4:gB p.bs 4=gB B 0:=by rw [← hBe];simp [gB,List.getD_eq_getElem?_getD]
 rw [hBe]
 have hszB:¬ B.length < fixN k:=by omega
 have hrd:rdB p.s k B=if targB k=true∧grpA (tgF k B)=true then ((zNb,5):Nb × Int) else match optF (B.drop (fixN k)).length (B.drop (fixN k)) (optN k) false zMac with
  | none=>(zNb,5)
  | some r=>if k=135∧r.1=true∧eqA p.s ⟨true,0,0⟩=true then (zNb,5) else (⟨k,flF k B,tgF k B,r.1,r.2⟩,0):=by unfold rdB;exact if_neg hszB
 have h20:targB k=true→fixN k=36∨fixN k=20:=fun h=>by
  unfold targB at h;simp only [Bool.and_eq_true,decide_eq_true_eq] at h
  unfold fixN;rw [if_neg (by omega),if_neg (by omega)];split<;>simp
 have hcase:(targB k=true∧grpA (tgF k B)=true)∨(targB k=false∧(k == 136)=false∧tgF k B=zAd∧flF k B=0)∨(targB k=true∧grpA (tgF k B)=false∧(k == 136)=false∧flF k B=0)∨(targB k=true∧grpA (tgF k B)=false∧(k == 136)=true∧flF k B=(gB p.bs 4).fdiv (2 ^ (min (5:Int).toNat IntKind.u8.bits))):=by
  rw [hg4]
  cases ht:targB k with
  | false =>
   have hk:k≠136:=fun e=>by rw [e] at ht;exact absurd ht (by decide)
   exact .inr (.inl ⟨rfl,by simpa using hk,by unfold tgF;rw [ht];rfl,by unfold flF;rw [if_neg hk]⟩)
  | true =>
   cases hg:grpA (tgF k B) with
   | true=>exact .inl ⟨rfl,rfl⟩
   | false =>
    by_cases hk:k=136
    ·exact .inr (.inr (.inr ⟨rfl,rfl,by simpa using hk,by unfold flF;rw [if_pos hk]⟩))
    ·exact .inr (.inr (.inl ⟨rfl,rfl,by simpa using hk,by unfold flF;rw [if_neg hk]⟩))
 have hfr:targB k=true→AFn Tryz.prog 74 0 [.isl (bytesC ((p.bs.drop 8).take (24 - 8))) (24 - 8)] mt (.tup [.agg (adC (tgF k B)),.base (.int .i64 0)]) mt:=fun h=>by
  rw [hd8]
  have hl16:((B.drop 4).take (20 - 4)).length=16:=by have:=h20 h;simp;omega
  have:=fromX_any ((B.drop 4).take (20 - 4)) ((hBB.drop 4).take _) (.inr hl16)
  have e:tgF k B=adOf ((B.drop 4).take (20 - 4)):=by unfold tgF;rw [h];rfl
  rw [e]
  rw [hl16] at this
  unfold adOf
  rw [hl16]
  exact this
 have hgr:=groupX_any (tgF k B)
 have hfd:0≤(gB p.bs 4).fdiv (2 ^ (min (5:Int).toNat IntKind.u8.bits))∧(gB p.bs 4).fdiv (2 ^ (min (5:Int).toNat IntKind.u8.bits))≤255:=by
  have:=hB.at 4
  rw [show (2:Int) ^ (min (5:Int).toNat IntKind.u8.bits)=32 from by decide,Int.fdiv_eq_ediv_of_nonneg _ (by decide)];omega
 obtain ⟨TG,hTG⟩:∃ TG,tgF k B=TG:=⟨_,rfl⟩
 obtain ⟨FL,hFL⟩:∃ FL,flF k B=FL:=⟨_,rfl⟩
 rw [hTG] at hrd hcase hfr hgr
 rw [hFL] at hrd hcase
 obtain ⟨R,hR⟩:∃ R,optF (B.drop (fixN k)).length (B.drop (fixN k)) (optN k) false zMac=R:=⟨_,rfl⟩
 rw [hR] at hrd
 have hat4:5≤p.bs.length→(bytesC p.bs)[4 * 1]?=some (.base (.int .u8 (gB p.bs 4))):=fun h=>by_at (by omega)
 rcases hcase with ⟨ht,hg⟩|⟨ht,hk6,htz,hfz⟩|⟨ht,hg,hk6,hfz⟩|⟨ht,hg,hk6,hfz⟩
 case' inl =>
  rw [if_pos ⟨ht,hg⟩] at hrd
  rw [hrd]
  rw [hg] at hgr
  have h20t:=h20 ht
  refine Wt rfl (ht)<|Wq<|qW 163 171 rfl<|qM rfl<|Od rfl rfl (Lsi rfl rfl rfl (Ba rfl rfl) (Ba rfl rfl) (by decide) (by simp;omega) ty24 ty5 (by_part (l:=p.bs) (k:=8) (m:=24) (by decide) (by omega)))<|qY rfl ((hfr ht)) fok74 rfl<|qM rfl<|qX rfl<|qX rfl<|qF rfl ty87 rfl<|qS rfl ty54 (Sl rfl) rfl<|Nl ?_
  unfold adC at hgr ⊢
  refine Wq<|qW 175 178 rfl<|qF rfl ty87 rfl<|qG rfl ty54 rfl (Tl rfl)<|qY rfl (hgr) fok81 rfl<|Nl<|Wt rfl rfl<|Wq<|qW 182 185 rfl<|Od rfl rfl (Bs rfl ty87 .nil)<|qS rfl ty87 (Sl rfl) rfl<|qA rfl<|Nl<|Wz ⟨.inl rfl,_,mt,(Rc (Ra0 rfl rfl ty87 rfl (Tl rfl)) (Rc (Rt rfl) Rv)),aM,?_⟩
  exact ⟨rfl,rfl⟩
 case' inr.inl =>
  refine Wo rfl (ht)<|Wu<|Wq<|Wq<|qW 189 192 rfl<|qF rfl ty87 rfl<|qL rfl ty3 rfl<|qE rfl<|Nl<|Wo rfl ‹_›<|Wu ?_
  rw [if_neg (by rw [ht];simp)] at hrd
  have hF:=hfz.symm
  have hT:=htz.symm
 case' inr.inr.inl =>
  rw [hg] at hgr
  have h20t:=h20 ht
  refine Wt rfl (ht)<|Wq<|qW 163 171 rfl<|qM rfl<|Od rfl rfl (Lsi rfl rfl rfl (Ba rfl rfl) (Ba rfl rfl) (by decide) (by simp;omega) ty24 ty5 (by_part (l:=p.bs) (k:=8) (m:=24) (by decide) (by omega)))<|qY rfl ((hfr ht)) fok74 rfl<|qM rfl<|qX rfl<|qX rfl<|qF rfl ty87 rfl<|qS rfl ty54 (Sl rfl) rfl<|Nl ?_
  unfold adC at hgr ⊢
  refine Wq<|qW 175 178 rfl<|qF rfl ty87 rfl<|qG rfl ty54 rfl (Tl rfl)<|qY rfl (hgr) fok81 rfl<|Nl<|Wo rfl rfl<|Wu<|Wq<|Wq<|qW 189 192 rfl<|qF rfl ty87 rfl<|qL rfl ty3 rfl<|qE rfl<|Nl<|Wo rfl ‹_›<|Wu ?_
  rw [if_neg (by rw [hg];simp)] at hrd
  have hF:=hfz.symm
  have hT:TG=TG:=rfl
 case' inr.inr.inr =>
  rw [hg] at hgr
  have h20t:=h20 ht
  refine Wt rfl (ht)<|Wq<|qW 163 171 rfl<|qM rfl<|Od rfl rfl (Lsi rfl rfl rfl (Ba rfl rfl) (Ba rfl rfl) (by decide) (by simp;omega) ty24 ty5 (by_part (l:=p.bs) (k:=8) (m:=24) (by decide) (by omega)))<|qY rfl ((hfr ht)) fok74 rfl<|qM rfl<|qX rfl<|qX rfl<|qF rfl ty87 rfl<|qS rfl ty54 (Sl rfl) rfl<|Nl ?_
  unfold adC at hgr ⊢
  refine Wq<|qW 175 178 rfl<|qF rfl ty87 rfl<|qG rfl ty54 rfl (Tl rfl)<|qY rfl (hgr) fok81 rfl<|Nl<|Wo rfl rfl<|Wu<|Wq<|Wq<|qW 189 192 rfl<|qF rfl ty87 rfl<|qL rfl ty3 rfl<|qE rfl<|Nl<|Wt rfl ‹_›<|qW 196 203 rfl<|qM rfl<|qJ rfl rfl ty24 ty5 (by simp;omega)<|Od rfl rfl (Li rfl rfl (hat4 (by have:=h20 ht;omega)) ty5 rfl)<|Od rfl rfl (LO.shr rfl rfl rfl (by omega))<|Od rfl rfl (Ci rfl rfl ty5 ty3 (iW _ (by omega)))<|qF rfl ty87 rfl<|qS rfl ty3 (Sl rfl) rfl<|Nl ?_
  rw [if_neg (by rw [hg];simp)] at hrd
  have hF:=hfz.symm
  have hT:TG=TG:=rfl
 all_goals
  obtain ⟨Bo,hBo⟩:∃ Bo,p.bs.drop (4 + fixN k)=Bo:=⟨_,rfl⟩
  have hBoo:IsB Bo:=by rw [← hBo];exact hB.drop _
  have hBol:p.bs.length - (4 + fixN k)=Bo.length:=by rw [← hBo];simp
  have hRo:optF Bo.length Bo (optN k) false zMac=R:=by rw [← hBo,hdr];exact hR
  have hBo2:Bo.length≤100000:=by omega
  repeat (refine Wq ?_)
  refine qW 207 214 rfl<|qM rfl<|qF rfl ty87 rfl<|qL rfl ty3 rfl<|qY rfl (hfx) fok79 rfl<|qZ rfl (iW _ (by omega))<|Od rfl rfl (Lsi rfl rfl rfl (Ba rfl rfl) Bnd.no (by simp;omega) (by omega) ty24 ty5 (by_drop (l:=p.bs) (k:=4 + fixN k) rfl))<|qA rfl<|Nl ?_
  rw [hBo,hBol]
  repeat (refine Wq ?_)
  refine Wb<|W.loop_keep (α:=List Int × Bool × List Int × Nat × Int × Ad) (fun x=>x.1.length) 3 (fun x=>[(1,.own 0 0),(2,.own 1 0),(5,.own 2 0),(6,.isl (bytesC x.1) x.1.length)]) (fun x=>up (up (up mt 0 (some (pkC p))) 1 (some (nbC zNb))) 2 (some (nbC ⟨k,x.2.2.2.2.1,x.2.2.2.2.2,x.2.1,x.2.2.1⟩))) (fun x=>(x.1.length≤x.2.2.2.1∧x.1.length≤100000)∧IsB x.1∧x.2.2.1.length=6∧optF x.2.2.2.1 x.1 (optN k) x.2.1 x.2.2.1=R∧x.2.2.2.2.1=FL∧x.2.2.2.2.2=TG) (Bo,false,zMac,Bo.length,_,_) [(0,0),(1,1),(2,132)] .nil (show (Bo.length≤Bo.length∧Bo.length≤100000)∧IsB Bo∧zMac.length=6∧optF Bo.length Bo (optN k) false zMac=R∧_=FL∧_=TG from ⟨⟨Nat.le_refl _,hBo2⟩,hBoo,rfl,hRo,hF,hT⟩) (by decide) ?_ ?_ ?_
  ·exact lC (lI rfl) (lC (lI rfl) (lC (lI rfl) (lC (lR rfl) lN)))
  ·exact aU (kR rfl) (aU (kR rfl) (aU (kR rfl) aM))
  rintro ⟨b,has,ln,q,fl,tg⟩ hIA ihA
  try (dsimp only at hIA)
  try dsimp only [baseT,List.cons_append,List.nil_append]
  obtain ⟨⟨hq,hbl⟩,hb,h6,hr,hf0,ht0⟩:=hIA
  rw [← hf0,← ht0] at hrd
  by_cases hz:b.length=0
  ·have g7:decide ((b.length:Int) > 0)=false:=decide_eq_false (by omega)
   have hr2:R=some (has,ln):=by
    rw [← hr]
    cases q with
    | zero=>rfl
    | succ q=>unfold optF;rw [if_pos hz]
   rw [hr2] at hrd
   dsimp only at hrd
   have hc4:((k == 135)=false∧¬ (k=135∧has=true∧eqA p.s ⟨true,0,0⟩=true))∨((k == 135)=true∧has=false∧¬ (k=135∧has=true∧eqA p.s ⟨true,0,0⟩=true))∨((k == 135)=true∧has=true∧eqA p.s ⟨true,0,0⟩=false∧¬ (k=135∧has=true∧eqA p.s ⟨true,0,0⟩=true))∨((k == 135)=true∧has=true∧eqA p.s ⟨true,0,0⟩=true):=by
    by_cases e1:k=135<;>cases e2:has<;>cases e3:eqA p.s ⟨true,0,0⟩<;>simp [e1]
   repeat (refine Wq ?_)
   refine qW 218 221 rfl<|qM rfl<|qH rfl ty24<|qGt rfl<|Nl<|Wo rfl ‹_›<|Wx ?_
   rcases hc4 with ⟨e1,hno⟩|⟨e1,e2,hno⟩|⟨e1,e2,e3,hno⟩|⟨e1,e2,e3⟩
   rotate_right
   ·rw [if_pos ⟨by simpa using e1,e2,e3⟩] at hrd
    rw [hrd]
    repeat (refine Wq ?_)
    refine qW 301 314 rfl<|qF rfl ty87 rfl<|qL rfl ty3 rfl<|qE rfl<|qM rfl<|gF rfl ‹_› ty87 rfl<|gL rfl ‹_› ty4 rfl<|qT rfl ‹_› rfl<|qM rfl<|gF rfl ‹_› ty83 rfl<|gG rfl ‹_› ty54 rfl (Tl rfl)<|qU rfl ‹_› rfl (Bs rfl ty54 (.cons rfl rfl rfl rfl (Sl rfl) .nil))<|qU rfl ‹_› rfl (LO.eql_ad p.s ⟨true,0,0⟩ rfl rfl rfl)<|qT rfl ‹_› rfl<|Nl<|Wt rfl ‹_› ?_
    repeat (refine Wq ?_)
    refine qW 318 321 rfl<|Od rfl rfl (Bs rfl ty87 .nil)<|qS rfl ty87 (Sl rfl) rfl<|qA rfl<|Nl<|Wz ⟨.inl rfl,_,mt,(Rc (Ra0 rfl rfl ty87 rfl (Tl rfl)) (Rc (Rt rfl) Rv)),aM,?_⟩
    exact ⟨rfl,rfl⟩
   all_goals
    rw [if_neg hno] at hrd
    rw [hrd]
    repeat (refine Wq ?_)
    refine qW 301 314 rfl<|qF rfl ty87 rfl<|qL rfl ty3 rfl<|qE rfl<|qM rfl ?_
    first
     | (refine RW.sd rfl rfl rfl ?_ rfl ?_;(· (first|rfl|assumption)))
     | (refine RW.gd rfl rfl rfl ?_ rfl (LO.fieldAddr rfl rfl ty87 rfl (by decide)) ?_;(· (first|rfl|assumption)))
    first
     | (refine RW.sd rfl rfl rfl ?_ rfl ?_;(· (first|rfl|assumption)))
     | (refine RW.gd rfl rfl rfl ?_ rfl (LO.load rfl rfl rfl rfl ty4 rfl) ?_;(· (first|rfl|assumption)))
    first
     | (refine RW.opd rfl rfl (LO.pick_t rfl rfl ?_ rfl) ?_;(· (first|rfl|assumption)))
     | (refine RW.opd rfl rfl (LO.pick_f rfl rfl ?_ rfl) ?_;(· (first|rfl|assumption)))
    refine qM rfl ?_
    first
     | (refine RW.sd rfl rfl rfl ?_ rfl ?_;(· (first|rfl|assumption)))
     | (refine RW.gd rfl rfl rfl ?_ rfl (LO.fieldAddr rfl rfl ty83 rfl (by decide)) ?_;(· (first|rfl|assumption)))
    first
     | (refine RW.sd rfl rfl rfl ?_ rfl ?_;(· (first|rfl|assumption)))
     | (refine RW.gd rfl rfl rfl ?_ rfl (LO.load_agg rfl rfl rfl ty54 rfl (Tk.lit rfl)) ?_;(· (first|rfl|assumption)))
    first
     | (refine RW.sd rfl rfl rfl ?_ rfl ?_;(· (first|rfl|assumption)))
     | (refine RW.gd rfl rfl rfl ?_ rfl (LO.build_st rfl ty54 (.cons rfl rfl rfl rfl (Sp.lit rfl) .nil)) ?_;(· (first|rfl|assumption)))
    first
     | (refine RW.sd rfl rfl rfl ?_ rfl ?_;(· (first|rfl|assumption)))
     | (refine RW.gd rfl rfl rfl ?_ rfl (LO.eql_ad p.s ⟨true,0,0⟩ rfl rfl rfl) ?_;(· (first|rfl|assumption)))
    first
     | (refine RW.opd rfl rfl (LO.pick_t rfl rfl ?_ rfl) ?_;(· (first|rfl|assumption)))
     | (refine RW.opd rfl rfl (LO.pick_f rfl rfl ?_ rfl) ?_;(· (first|rfl|assumption)))
    refine Nl<|Wo rfl (by first|rfl|assumption)<|Wu ?_
    repeat (refine Wq ?_)
    refine qW 325 328 rfl<|qG rfl ty87 rfl (nb_tk h6)<|On rfl rfl (Sr rfl rfl rfl rfl rfl ty87 (nb_len h6) (by decide) (Sp.of_all (nb_len h6)))<|qA rfl<|Nl<|Wz ⟨.inl rfl,_,mt,(Rc (Ra0 rfl rfl ty87 rfl (nb_tk h6)) (Rc (Rt rfl) Rv)),aM,?_⟩
    exact ⟨rfl,rfl⟩
  ·obtain ⟨q,rfl⟩:∃ p,q=p + 1:=⟨q - 1,by omega⟩
   have g7:decide ((b.length:Int) > 0)=true:=decide_eq_true (by omega)
   have c0:=hb.at 0
   have c1:=hb.at 1
   have hr3:R=if b.length=0 then some (has,ln) else if b.length < 2∨gB b 1=0∨(b.length:Int) < gB b 1 * 8 then none else if has=false∧gB b 0=optN k∧gB b 1=1 then optF q (b.drop (gB b 1 * 8).toNat) (optN k) true ((b.drop 2).take 6) else optF q (b.drop (gB b 1 * 8).toNat) (optN k) has ln:=by rw [← hr];rfl
   rw [if_neg hz] at hr3
   obtain ⟨y0,hy0⟩:∃ y0,gB b 0=y0:=⟨_,rfl⟩
   obtain ⟨y1,hy1⟩:∃ y1,gB b 1=y1:=⟨_,rfl⟩
   by_cases hbad:b.length < 2∨gB b 1=0∨(b.length:Int) < gB b 1 * 8
   ·rw [if_pos hbad] at hr3
    rw [hr3] at hrd
    dsimp only at hrd
    rw [hrd]
    rw [hy1] at hbad c1
    have hc:b.length < 2∨(2≤b.length∧y1=0)∨(2≤b.length∧y1≠0∧(b.length:Int) < y1 * 8):=by omega
    rcases hc with m1|⟨m1,m2⟩|⟨m1,m2,m3⟩
    case' inl =>
     have n2:decide ((b.length:Int) < 2)=true:=decide_eq_true (by omega)
    case' inr.inl =>
     have n2:decide ((b.length:Int) < 2)=false:=decide_eq_false (by omega)
     have n3:(y1 == 0)=true:=by simpa using m2
     have hbt1:=by_at (l:=b) (k:=1) (by omega)
     rw [hy1] at hbt1
    case' inr.inr =>
     have n2:decide ((b.length:Int) < 2)=false:=decide_eq_false (by omega)
     have n3:(y1 == 0)=false:=by simpa using m2
     have n4:decide (8 * y1 > (b.length:Int))=true:=decide_eq_true (by omega)
     have hbt1:=by_at (l:=b) (k:=1) (by omega)
     rw [hy1] at hbt1
    all_goals
     repeat (refine Wq ?_)
     refine qW 218 221 rfl<|qM rfl<|qH rfl ty24<|qGt rfl<|Nl<|Wt rfl ‹_›<|Wu<|Wb ?_
     repeat (refine Wq ?_)
     refine qW 225 244 rfl<|qM rfl<|qH rfl ty24<|qK rfl<|qM rfl ?_
     first
      | (refine RW.sd rfl rfl rfl ?_ rfl ?_;(· (first|rfl|assumption)))
      | (refine RW.gd rfl rfl rfl ?_ rfl (LO.move rfl rfl) ?_;(· (first|rfl|assumption)))
     first
      | (refine RW.sd rfl rfl rfl ?_ rfl ?_;(· (first|rfl|assumption)))
      | (refine RW.gd rfl rfl rfl ?_ rfl (LO.indexAddr_isl rfl rfl rfl rfl rfl ty24 ty5 ?_) ?_;(· (first|rfl|assumption));(· (first|omega|decide|assumption|fail|(simp;done)|(simp;omega))))
     first
      | (refine RW.sd rfl rfl rfl ?_ rfl ?_;(· (first|rfl|assumption)))
      | (refine RW.gd rfl rfl rfl ?_ rfl (LO.load_imm rfl rfl (by first|exact hbt1) ty5 rfl) ?_;(· (first|rfl|assumption)))
     first
      | (refine RW.sd rfl rfl rfl ?_ rfl ?_;(· (first|rfl|assumption)))
      | (refine RW.gd rfl rfl rfl ?_ rfl (LO.eql rfl rfl rfl) ?_;(· (first|rfl|assumption)))
     first
      | (refine RW.opd rfl rfl (LO.pick_t rfl rfl ?_ rfl) ?_;(· (first|rfl|assumption)))
      | (refine RW.opd rfl rfl (LO.pick_f rfl rfl ?_ rfl) ?_;(· (first|rfl|assumption)))
     refine qM rfl ?_
     first
      | (refine RW.sd rfl rfl rfl ?_ rfl ?_;(· (first|rfl|assumption)))
      | (refine RW.gd rfl rfl rfl ?_ rfl (LO.move rfl rfl) ?_;(· (first|rfl|assumption)))
     first
      | (refine RW.sd rfl rfl rfl ?_ rfl ?_;(· (first|rfl|assumption)))
      | (refine RW.gd rfl rfl rfl ?_ rfl (LO.indexAddr_isl rfl rfl rfl rfl rfl ty24 ty5 ?_) ?_;(· (first|rfl|assumption));(· (first|omega|decide|assumption|fail|(simp;done)|(simp;omega))))
     first
      | (refine RW.sd rfl rfl rfl ?_ rfl ?_;(· (first|rfl|assumption)))
      | (refine RW.gd rfl rfl rfl ?_ rfl (LO.load_imm rfl rfl (by first|exact hbt1) ty5 rfl) ?_;(· (first|rfl|assumption)))
     first
      | (refine RW.sd rfl rfl rfl ?_ rfl ?_;(· (first|rfl|assumption)))
      | (refine RW.gd rfl rfl rfl ?_ rfl (LO.conv_in rfl rfl ty5 ty3 ?_) ?_;(· (first|rfl|assumption));(· (first|exact IntWalk.i64_in _ (by omega)|assumption)))
     first
      | (refine RW.sd rfl rfl rfl ?_ rfl ?_;(· (first|rfl|assumption)))
      | (refine RW.gd rfl rfl rfl ?_ rfl (LO.mul_in rfl rfl rfl ?_) ?_;(· (first|rfl|assumption));(· (first|exact IntWalk.i64_in _ (by omega)|assumption)))
     first
      | (refine RW.sd rfl rfl rfl ?_ rfl ?_;(· (first|rfl|assumption)))
      | (refine RW.gd rfl rfl rfl ?_ rfl (LO.move rfl rfl) ?_;(· (first|rfl|assumption)))
     first
      | (refine RW.sd rfl rfl rfl ?_ rfl ?_;(· (first|rfl|assumption)))
      | (refine RW.gd rfl rfl rfl ?_ rfl (LO.len_isl rfl rfl rfl ty24) ?_;(· (first|rfl|assumption)))
     first
      | (refine RW.sd rfl rfl rfl ?_ rfl ?_;(· (first|rfl|assumption)))
      | (refine RW.gd rfl rfl rfl ?_ rfl (LO.gtr rfl rfl rfl) ?_;(· (first|rfl|assumption)))
     first
      | (refine RW.opd rfl rfl (LO.pick_t rfl rfl ?_ rfl) ?_;(· (first|rfl|assumption)))
      | (refine RW.opd rfl rfl (LO.pick_f rfl rfl ?_ rfl) ?_;(· (first|rfl|assumption)))
     refine Nl<|Wt rfl (by first|rfl|assumption) ?_
     repeat (refine Wq ?_)
     refine qW 248 251 rfl<|Od rfl rfl (Bs rfl ty87 .nil)<|qS rfl ty87 (Sl rfl) rfl<|qA rfl<|Nl<|Wz ⟨.inl rfl,_,mt,(Rc (Ra0 rfl rfl ty87 rfl (Tl rfl)) (Rc (Rt rfl) Rv)),aM,?_⟩
     exact ⟨rfl,rfl⟩
   ·rw [if_neg hbad] at hr3
    rw [hy1] at hbad c1
    rw [hy0] at c0
    have m1:2≤b.length:=by omega
    have n2:decide ((b.length:Int) < 2)=false:=decide_eq_false (by omega)
    have n3:(y1 == 0)=false:=by simp;omega
    have n4:decide (8 * y1 > (b.length:Int))=false:=decide_eq_false (by omega)
    have hbt1:=by_at (l:=b) (k:=1) (by omega)
    have hbt0:=by_at (l:=b) (k:=0) (by omega)
    rw [hy1] at hbt1 hr3
    rw [hy0] at hbt0 hr3
    obtain ⟨w,hw⟩:∃ w:Nat,8 * y1=(w:Int):=⟨(8 * y1).toNat,by omega⟩
    have hwt:(y1 * 8).toNat=w:=by omega
    rw [hwt] at hr3
    have hdl:(b.drop w).length=b.length - w:=by simp
    repeat (refine Wq ?_)
    refine qW 218 221 rfl<|qM rfl<|qH rfl ty24<|qGt rfl<|Nl<|Wt rfl ‹_›<|Wu<|Wb ?_
    repeat (refine Wq ?_)
    refine qW 225 244 rfl<|qM rfl<|qH rfl ty24<|qK rfl<|qM rfl<|gM rfl ‹_›<|qU rfl ‹_› rfl (Ii rfl rfl rfl rfl rfl ty24 ty5 ‹_›)<|qU rfl ‹_› rfl (Li rfl rfl hbt1 ty5 rfl)<|gE rfl ‹_›<|qP rfl ‹_› rfl<|qM rfl<|gM rfl ‹_›<|qU rfl ‹_› rfl (Ii rfl rfl rfl rfl rfl ty24 ty5 ‹_›)<|qU rfl ‹_› rfl (Li rfl rfl hbt1 ty5 rfl)<|qU rfl ‹_› rfl (Ci rfl rfl ty5 ty3 (iW _ (by omega)))<|qU rfl ‹_› rfl (LO.mul_in rfl rfl rfl (iW _ (by omega)))<|gM rfl ‹_›<|gH rfl ‹_› ty24<|gGt rfl ‹_›<|qP rfl ‹_› rfl<|Nl<|Wo rfl ‹_›<|Wu ?_
    by_cases hcond:has=false∧y0=optN k∧y1=1
    ·obtain ⟨e1,e2,e3⟩:=hcond
     rw [if_pos ⟨e1,e2,e3⟩] at hr3
     have u1:(!has)=true:=by rw [e1];rfl
     have u2:(y0 == optN k)=true:=by simpa using e2
     have u3:(y1 == 1)=true:=by simpa using e3
     repeat (refine Wq ?_)
     refine Wd 255 273 (by decide) rfl mixed rfl<|qM rfl<|qJ rfl rfl ty24 ty5 (by simp;omega)<|Od rfl rfl (Li rfl rfl hbt0 ty5 rfl)<|qF rfl ty87 rfl<|qL rfl ty3 rfl<|qY rfl (hop) fok82 rfl<|qE rfl<|qM rfl<|gM rfl ‹_›<|qU rfl ‹_› rfl (Ii rfl rfl rfl rfl rfl ty24 ty5 ‹_›)<|qU rfl ‹_› rfl (Li rfl rfl hbt1 ty5 rfl)<|gE rfl ‹_›<|qT rfl ‹_› rfl<|qM rfl<|gF rfl ‹_› ty87 rfl<|gL rfl ‹_› ty4 rfl<|gO rfl ‹_›<|qT rfl ‹_› rfl<|Nl ⟨by kernel_rfl,(Wt rfl ‹_› ?_)⟩
     have hl6:((b.drop 2).take (8 - 2)).length=6:=by simp;omega
     refine Wd 277 285 (by decide) rfl mixed rfl<|qM rfl<|Od rfl rfl (Lsi rfl rfl rfl (Ba rfl rfl) (Ba rfl rfl) (by decide) (by simp;omega) ty24 ty5 (by_part (l:=b) (k:=2) (m:=8) (by decide) (by omega)))<|Od rfl rfl (LO.toArr rfl rfl rfl ty23 (by decide) (by decide))<|Od rfl rfl (Lg rfl rfl ty23 rfl (bytes_tk hl6))<|qF rfl ty87 rfl<|qS rfl ty4 sp_has rfl<|qF rfl ty87 rfl<|On rfl rfl (Sr rfl rfl rfl rfl rfl ty23 (show (bytesC ((b.drop 2).take (8 - 2))).length=6 from by rw [bytesC_len,hl6]) (by decide) (sp_mac (l:=ln) (m:=(b.drop 2).take (8 - 2)) h6 hl6))<|Nl ⟨by kernel_rfl,(qW 289 297 rfl<|qM rfl<|qM rfl<|qJ rfl rfl ty24 ty5 ‹_›<|Od rfl rfl (Li rfl rfl hbt1 ty5 rfl)<|Od rfl rfl (Ci rfl rfl ty5 ty3 (iW _ (by omega)))<|Od rfl rfl (LO.mul_in rfl rfl rfl (iW _ (by omega)))<|Od rfl rfl (Lsi rfl rfl rfl (Ba rfl hw) Bnd.no (by omega) (by omega) ty24 ty5 (by_drop (l:=b) (k:=w) rfl))<|qA rfl<|Nl ?_)⟩
     rw [← hdl]
     refine WL.renameL [(0,0),(1,1),(2,2)] 3 (by decide) ?_ ?_ (ihA ((b.drop w),true,((b.drop 2).take (8 - 2)),q,fl,tg) (show (b.drop w).length < b.length from by omega) (show ((b.drop w).length≤q∧(b.drop w).length≤100000)∧IsB (b.drop w)∧((b.drop 2).take (8 - 2)).length=6∧optF q (b.drop w) (optN k) true ((b.drop 2).take (8 - 2))=R∧fl=FL∧tg=TG from ⟨⟨by omega,by omega⟩,hb.drop _,hl6,hr3.symm,hf0,ht0⟩))
     ·exact lC (lI rfl) (lC (lI rfl) (lC (lI rfl) (lC (lR rfl) lN)))
     ·exact aU (kP rfl (bytesC_pure _)) (aU (kR rfl) (aU (kR rfl) aM))
    ·rw [if_neg hcond] at hr3
     have hcs:(y0 == optN k)=false∨((y0 == optN k)=true∧(y1 == 1)=false)∨((y0 == optN k)=true∧(y1 == 1)=true∧(!has)=false):=by
      by_cases e1:y0=optN k
      ·by_cases e2:y1=1
       ·cases has
        ·exact absurd ⟨rfl,e1,e2⟩ hcond
        ·exact .inr (.inr ⟨by simpa using e1,by simpa using e2,rfl⟩)
       ·exact .inr (.inl ⟨by simpa using e1,by simpa using e2⟩)
      ·exact .inl (by simpa using e1)
     rcases hcs with u1|⟨u1,u2⟩|⟨u1,u2,u3⟩
     all_goals
      repeat (refine Wq ?_)
      refine Wd 255 273 (by decide) rfl mixed rfl<|qM rfl<|qJ rfl rfl ty24 ty5 (by simp;omega)<|Od rfl rfl (Li rfl rfl hbt0 ty5 rfl)<|qF rfl ty87 rfl<|qL rfl ty3 rfl<|qY rfl (hop) fok82 rfl<|qE rfl<|qM rfl ?_
      first
       | (refine RW.sd rfl rfl rfl ?_ rfl ?_;(· (first|rfl|assumption)))
       | (refine RW.gd rfl rfl rfl ?_ rfl (LO.move rfl rfl) ?_;(· (first|rfl|assumption)))
      first
       | (refine RW.sd rfl rfl rfl ?_ rfl ?_;(· (first|rfl|assumption)))
       | (refine RW.gd rfl rfl rfl ?_ rfl (LO.indexAddr_isl rfl rfl rfl rfl rfl ty24 ty5 ?_) ?_;(· (first|rfl|assumption));(· (first|omega|decide|assumption|fail|(simp;done)|(simp;omega))))
      first
       | (refine RW.sd rfl rfl rfl ?_ rfl ?_;(· (first|rfl|assumption)))
       | (refine RW.gd rfl rfl rfl ?_ rfl (LO.load_imm rfl rfl hbt1 ty5 rfl) ?_;(· (first|rfl|assumption)))
      first
       | (refine RW.sd rfl rfl rfl ?_ rfl ?_;(· (first|rfl|assumption)))
       | (refine RW.gd rfl rfl rfl ?_ rfl (LO.eql rfl rfl rfl) ?_;(· (first|rfl|assumption)))
      first
       | (refine RW.opd rfl rfl (LO.pick_t rfl rfl ?_ rfl) ?_;(· (first|rfl|assumption)))
       | (refine RW.opd rfl rfl (LO.pick_f rfl rfl ?_ rfl) ?_;(· (first|rfl|assumption)))
      refine qM rfl ?_
      first
       | (refine RW.sd rfl rfl rfl ?_ rfl ?_;(· (first|rfl|assumption)))
       | (refine RW.gd rfl rfl rfl ?_ rfl (LO.fieldAddr rfl rfl ty87 rfl (by decide)) ?_;(· (first|rfl|assumption)))
      first
       | (refine RW.sd rfl rfl rfl ?_ rfl ?_;(· (first|rfl|assumption)))
       | (refine RW.gd rfl rfl rfl ?_ rfl (LO.load rfl rfl rfl rfl ty4 rfl) ?_;(· (first|rfl|assumption)))
      first
       | (refine RW.sd rfl rfl rfl ?_ rfl ?_;(· (first|rfl|assumption)))
       | (refine RW.gd rfl rfl rfl ?_ rfl (LO.not rfl rfl) ?_;(· (first|rfl|assumption)))
      first
       | (refine RW.opd rfl rfl (LO.pick_t rfl rfl ?_ rfl) ?_;(· (first|rfl|assumption)))
       | (refine RW.opd rfl rfl (LO.pick_f rfl rfl ?_ rfl) ?_;(· (first|rfl|assumption)))
      refine Nl ⟨by kernel_rfl,(Wo rfl (by first|rfl|assumption)<|Wu<|qW 289 297 rfl<|qM rfl<|qM rfl<|qJ rfl rfl ty24 ty5 ‹_›<|Od rfl rfl (Li rfl rfl hbt1 ty5 rfl)<|Od rfl rfl (Ci rfl rfl ty5 ty3 (iW _ (by omega)))<|Od rfl rfl (LO.mul_in rfl rfl rfl (iW _ (by omega)))<|Od rfl rfl (Lsi rfl rfl rfl (Ba rfl hw) Bnd.no (by omega) (by omega) ty24 ty5 (by_drop (l:=b) (k:=w) rfl))<|qA rfl<|Nl ?_)⟩
      rw [← hdl]
      refine WL.renameL [(0,0),(1,1),(2,2)] 3 (by decide) ?_ ?_ (ihA ((b.drop w),has,ln,q,fl,tg) (show (b.drop w).length < b.length from by omega) (show ((b.drop w).length≤q∧(b.drop w).length≤100000)∧IsB (b.drop w)∧ln.length=6∧optF q (b.drop w) (optN k) has ln=R∧fl=FL∧tg=TG from ⟨⟨by omega,by omega⟩,hb.drop _,h6,hr3.symm,hf0,ht0⟩))
      ·exact lC (lI rfl) (lC (lI rfl) (lC (lI rfl) (lC (lR rfl) lN)))
      ·exact aU (kP rfl (bytesC_pure _)) (aU (kR rfl) (aU (kR rfl) aM))
theorem decX_any (p:Pk) (hB:IsB p.bs) (s1:U64 p.s.hi) (s2:U64 p.s.lo) (d1:U64 p.d.hi) (d2:U64 p.d.lo):AFn Tryz.prog 38 0 [.agg (pkC p)] mt (decV p) mt:=by
 by_cases hE:chkE p=0
 ·by_cases hsz:p.bs.length < 4 + fixN (gB p.bs 0)
  ·exact decX_short p hB s1 s2 d1 d2 hE hsz
  ·exact decX_ok p hB s1 s2 d1 d2 hE hsz
 ·cases hv:vpk p with
  | false=>exact decX_bad1 p hv
  | true =>
   by_cases hk:chkE p=5∧(!p.s.v6)=false∧(p.p != 58)=false
   ·exact decX_bad3 p hB s1 s2 d1 d2 hv hk.1 hk.2.1 hk.2.2
   ·exact decX_bad2 p hB s1 s2 d1 d2 hv hE hk
theorem cloneM_any (b:List (List Int)) (h6:∀ m,m∈b→m.length=6) (h:0 < b.length) (hl:b.length≤1000):AFn Tryz.prog 138 0 [.isl (macsC b) b.length] mt (.isl (macsC b) b.length) mt:=by
 refine AFn.eq Tryz.func138 rfl rfl (Nat.le_of_ble_eq_true rfl) ?_
 have hz:=macsC_len h6
 refine Wq<|qW 0 1 rfl<|qA rfl<|Nl<|Wq<|Wq<|qW 5 7 rfl<|qM rfl<|Od rfl rfl (LO.eqNilI rfl rfl rfl h rfl ty36)<|Nl<|Wo rfl rfl<|Wu<|Wq<|qW 16 20 rfl<|Od rfl rfl (LO.buildSlice rfl ty36 ty23 (by decide) (by decide) .nil)<|qM rfl<|Od rfl rfl (Lap rfl rfl (Ssi rfl rfl hz) rfl (Tl rfl) ty36 ty36 ty23 (by decide) (by omega) (by omega) (by decide))<|qA rfl<|Nl ?_
 rw [List.nil_append,show 0 + b.length=b.length from Nat.zero_add _]
 refine Wy (t:=2) rfl rfl (macs_all h6) (macsC_pure _)<|Wz ⟨.inl rfl,_,mt,Rc (Rt rfl) (Rv),aM,?_⟩
 exact ⟨rfl,rfl⟩
theorem andNotM (x j:Nat) (hx:x < 2 ^ 64) (hj:j≤64):bitV .andNot .u64 (x:Int) ((2 ^ j - 1:Nat):Int)=((x / 2 ^ j * 2 ^ j:Nat):Int):=by
 have e1:(BitVec.ofInt 64 (x:Int)).toNat=x:=by rw [BitVec.ofInt_natCast,BitVec.toNat_ofNat];exact Nat.mod_eq_of_lt hx
 have hm:2 ^ j≤2 ^ 64:=Nat.pow_le_pow_right (by decide) hj
 have e2:(BitVec.ofInt 64 ((2 ^ j - 1:Nat):Int)).toNat=2 ^ j - 1:=by rw [BitVec.ofInt_natCast,BitVec.toNat_ofNat];exact Nat.mod_eq_of_lt (by have:=Nat.two_pow_pos j;omega)
 have key:(BitVec.ofInt 64 (x:Int) &&& ~~~BitVec.ofInt 64 ((2 ^ j - 1:Nat):Int)).toNat=x / 2 ^ j * 2 ^ j:=by
  refine Nat.eq_of_testBit_eq fun i=>?_
  rw [← Nat.shiftRight_eq_div_pow,← Nat.shiftLeft_eq,Nat.testBit_shiftLeft,Nat.testBit_shiftRight]
  rw [BitVec.testBit_toNat,BitVec.getLsbD_and,BitVec.getLsbD_not,← BitVec.testBit_toNat,← BitVec.testBit_toNat,e1,e2,Nat.testBit_two_pow_sub_one]
  by_cases h1:j≤i
  ·rw [show j + (i - j)=i from by omega]
   by_cases h2:i < 64
   ·simp [h1,h2]
   ·rw [Nat.testBit_lt_two_pow (Nat.lt_of_lt_of_le hx (Nat.pow_le_pow_right (by decide) (by omega)))];simp
  ·simp [h1];omega
 show IntKind.u64.wrap ((BitVec.ofInt 64 (x:Int) &&& ~~~BitVec.ofInt 64 ((2 ^ j - 1:Nat):Int)).toNat:Int)=_
 rw [key,IntKind.wrap_u64]
 have:=Nat.div_mul_le_self x (2 ^ j)
 omega
theorem andNot8 {x:Int} (h:U64 x):bitV .andNot .u64 x 255=x / 256 * 256:=by
 obtain ⟨n,rfl⟩:=Int.eq_ofNat_of_zero_le h.1
 have:=andNotM n 8 (by have:=h.2;omega) (by decide)
 simpa using this
theorem andNot0 {x:Int} (h:U64 x):bitV .andNot .u64 x 0=x:=by
 obtain ⟨n,rfl⟩:=Int.eq_ofNat_of_zero_le h.1
 have:=andNotM n 0 (by have:=h.2;omega) (by decide)
 simpa using this
theorem andNot64 {x:Int} (h:U64 x):bitV .andNot .u64 x 18446744073709551615=0:=by
 obtain ⟨n,rfl⟩:=Int.eq_ofNat_of_zero_le h.1
 have:=andNotM n 64 (by have:=h.2;omega) (by decide)
 have e:n / 2 ^ 64=0:=Nat.div_eq_of_lt (by have:=h.2;omega)
 rw [e] at this
 simpa using this
def in4 (a:Ad):Bool:=decide (a.lo / 256=12582914)
def in6 (a:Ad):Bool:=decide (a.hi=2306139568115548160)
theorem LO.eql_mac_b {o:Oper} {E:Operand→Option AV} {H:Hp} {f:Nat} {ty:TypeId} {x y:Operand} {r:Bool} (a b:List Int) (h:decide (a=b)=r) (ha:a.length=6) (hb:b.length=6) (ho:o.op=.binOp .eql 23 x y ty) (hx:E x=some (.agg (bytesC a))) (hy:E y=some (.agg (bytesC b))):LO Tryz.prog o E H f [] [] (.base (.bool r)) H:=h ▸ LO.eql_mac a b ha hb ho hx hy
theorem LO.neq_mac_b {o:Oper} {E:Operand→Option AV} {H:Hp} {f:Nat} {ty:TypeId} {x y:Operand} {r:Bool} (a b:List Int) (h:decide (a=b)=r) (ha:a.length=6) (hb:b.length=6) (ho:o.op=.binOp .neq 23 x y ty) (hx:E x=some (.agg (bytesC a))) (hy:E y=some (.agg (bytesC b))):LO Tryz.prog o E H f [] [] (.base (.bool (!r))) H :=
 h ▸ LO.eq_bases true (a.map (Value.int .u8)) (b.map (Value.int .u8)) ho hx hy (bytesC_bases a) (bytesC_bases b) (guard_run x y true (by kernel_rfl)) (eqMac_in 9998 ha hb)
def resM (m:List Int):Bool:=decide (m.take 5=[1,128,194,0,0]) && decide (gB m 5≤15)
theorem resE_any (m:List Int) (h6:m.length=6):AFn Tryz.prog 62 0 [.agg (bytesC m)] mt (.base (.bool (resM m))) mt:=by
 refine AFn.eq Tryz.func62 rfl rfl (Nat.le_of_ble_eq_true rfl) ?_
 obtain ⟨m0,m1,m2,m3,m4,m5,rfl⟩:=six_of h6
 obtain ⟨b,hb⟩:∃ b,decide (([m0,m1,m2,m3,m4,0]:List Int)=[1,128,194,0,0,0])=b:=⟨_,rfl⟩
 have hres:resM [m0,m1,m2,m3,m4,m5]=(b && decide (m5≤15)):=by
  rw [← hb]
  unfold resM
  congr 1
  simp
 rw [hres]
 refine Wq<|qW 0 2 rfl<|qC rfl<|qA rfl<|Nl<|Wq<|qW 6 9 rfl<|Od rfl rfl (Ir rfl rfl rfl rfl ty23 ty5 (by decide))<|qL rfl ty5 rfl<|qA rfl<|Nl<|Wq<|qW 13 15 rfl<|Od rfl rfl (Ir rfl rfl rfl rfl ty23 ty5 (by decide))<|qS rfl ty5 (Sl rfl) rfl<|Nl ?_
 cases b
 ·
  refine Wq<|qW 19 27 rfl<|qG rfl ty23 rfl (Tl rfl)<|Od rfl rfl (LO.build_ar rfl ty23 ty5 (.cons rfl rfl rfl rfl (Sl rfl) (.cons rfl rfl rfl rfl (Sl rfl) (.cons rfl rfl rfl rfl (Sl rfl) .nil))))<|Od rfl rfl (LO.eql_mac_b [m0,m1,m2,m3,m4,0] [1,128,194,0,0,0] hb rfl rfl rfl rfl rfl)<|qM rfl<|qD rfl rfl rfl<|qD rfl rfl rfl<|qP rfl rfl rfl<|qA rfl<|Nl<|Wz ⟨.inl rfl,_,mt,Rc (Rt rfl) (Rv),aM,?_⟩
  exact ⟨rfl,rfl⟩
 ·
  refine Wq<|qW 19 27 rfl<|qG rfl ty23 rfl (Tl rfl)<|Od rfl rfl (LO.build_ar rfl ty23 ty5 (.cons rfl rfl rfl rfl (Sl rfl) (.cons rfl rfl rfl rfl (Sl rfl) (.cons rfl rfl rfl rfl (Sl rfl) .nil))))<|Od rfl rfl (LO.eql_mac_b [m0,m1,m2,m3,m4,0] [1,128,194,0,0,0] hb rfl rfl rfl rfl rfl)<|qM rfl<|gM rfl rfl<|gLe rfl rfl<|qT rfl rfl rfl<|qA rfl<|Nl<|Wz ⟨.inl rfl,_,mt,Rc (Rt rfl) (Rv),aM,?_⟩
  exact ⟨by rw [Bool.true_and];rfl,rfl⟩
def hasA (l:List Ad) (a:Ad):Bool:=l.any fun x=>eqA x a
theorem eqA_comm (a b:Ad):eqA a b=eqA b a:=by
 rw [Bool.eq_iff_iff,eqA_iff,eqA_iff]
 exact ⟨Eq.symm,Eq.symm⟩
theorem any_take {α:Type} {l:List α} {i:Nat} (h:i < l.length) (f:α→Bool):(l.take (i + 1)).any f=((l.take i).any f || f l[i]):=by
 rw [List.take_succ_eq_append_getElem h,List.any_append];simp
theorem hasA_at {l:List Ad} {a:Ad} {i:Nat} (h:i < l.length) (e:eqA l[i] a=true):hasA l a=true:=List.any_eq_true.2 ⟨_,List.getElem_mem h,e⟩
theorem hasX_any (l:List Ad) (a:Ad) (hl:l.length≤1000):AFn Tryz.prog 124 0 [.isl (adsC l) l.length,.agg (adC a)] mt (.base (.bool (hasA l a))) mt:=by
 refine AFn.eq Tryz.func124 rfl rfl (Nat.le_of_ble_eq_true rfl)<|Wq<|qW 0 2 rfl<|qC rfl<|qA rfl<|Nl<|Wq<|Wq<|qW 6 9 rfl<|qM rfl<|qH rfl ty37<|qM rfl<|Nl<|Wb<|W.loop_keep (α:=Nat) (fun x=>l.length - x) 1 (fun x=>[(3,.own 0 0),(9,.base (.int .i64 (x:Int)))]) (fun x=>up mt 0 (some (adC a))) (fun x=>x≤l.length∧(l.take x).any (fun x=>eqA x a)=false) 0 [(0,0)] (.cons (t:=7) rfl (by exact .inl rfl) (.cons (t:=8) rfl (by exact .inl rfl) .nil)) (show 0≤l.length∧(l.take 0).any (fun x=>eqA x a)=false from ⟨Nat.zero_le _,rfl⟩) (by decide) ?_ ?_ ?_
 ·exact lC (lI rfl) (lC (lR rfl) lN)
 ·exact aU (kR rfl) aM
 rintro i hIA ihA
 try (dsimp only at hIA)
 try dsimp only [baseT,List.cons_append,List.nil_append]
 obtain ⟨hi,hno⟩:=hIA
 by_cases hc:i < l.length
 ·have g1:decide ((i:Int) < (l.length:Int))=true:=decide_eq_true (by omega)
  have hxt:=ads_tk hc
  have htm:=any_take hc (fun x=>eqA x a)
  have hat:=hasA_at (a:=a) hc
  generalize l[i]=x at *
  obtain ⟨x6,xh,xl⟩:=x
  refine Wq<|qW 13 14 rfl<|qK rfl<|Nl<|Wq<|Wt rfl ‹_›<|Wu<|Wq<|Wb<|Wq<|qW 18 22 rfl<|qJ rfl rfl ty37 ty54 (by omega)<|Od rfl rfl (Lg rfl rfl ty54 rfl hxt)<|qB rfl ty54<|qS rfl ty54 (Sl rfl) rfl<|Nl ?_
  cases he:eqA ⟨x6,xh,xl⟩ a
  ·
   refine Wq<|qW 26 29 rfl<|qG rfl ty54 rfl (Tl rfl)<|qG rfl ty54 rfl (Tl rfl)<|Od rfl rfl (LO.eql_ad ⟨x6,xh,xl⟩ a rfl rfl rfl)<|Nl<|Wo rfl ‹_›<|Wu<|qW 38 40 rfl<|qZ rfl (iW _ (by omega))<|qM rfl<|Nl<|WL.renameL [(0,0)] 1 (by decide) ?_ ?_ (ihA (i + 1) (show l.length - (i + 1) < l.length - i from by omega) (show (i + 1)≤l.length∧(l.take (i + 1)).any (fun x=>eqA x a)=false from ⟨by omega,by rw [htm,hno,he];rfl⟩))
   ·exact lC (lI rfl) (lC (lR rfl) (lC (lR rfl) (lC (lR rfl) lN)))
   ·exact aU (kR rfl) aM
  ·
   have h1:=hat he
   refine Wq<|qW 26 29 rfl<|qG rfl ty54 rfl (Tl rfl)<|qG rfl ty54 rfl (Tl rfl)<|Od rfl rfl (LO.eql_ad ⟨x6,xh,xl⟩ a rfl rfl rfl)<|Nl<|Wt rfl ‹_›<|Wq<|qW 33 34 rfl<|qA rfl<|Nl<|Wz ⟨.inl rfl,_,mt,Rc (Rt rfl) (Rv),aM,?_⟩
   exact ⟨by rw [h1];rfl,rfl⟩
 ·have g1:decide ((i:Int) < (l.length:Int))=false:=decide_eq_false (by omega)
  have h1:hasA l a=false:=by rw [List.take_of_length_le (by omega)] at hno;exact hno
  refine Wq<|qW 13 14 rfl<|qK rfl<|Nl<|Wq<|Wo rfl ‹_›<|Wx<|Wq<|qW 44 45 rfl<|qA rfl<|Nl<|Wz ⟨.inl rfl,_,mt,Rc (Rt rfl) (Rv),aM,?_⟩
  exact ⟨by rw [h1];rfl,rfl⟩
theorem idxA_any (l:List Ad) (a:Ad) (hl:l.length≤1000):∃ v H',AFn Tryz.prog 146 0 [.isl (adsC l) l.length,.agg (adC a)] mt v H'∧∃ z:Int,decide (z ≥ 0)=hasA l a∧v=.base (.int .i64 z)∧H'=mt:=by
 refine AFn.ex Tryz.func146 rfl rfl (Nat.le_of_ble_eq_true rfl)<|Wq<|qW 0 2 rfl<|qC rfl<|qA rfl<|Nl<|Wq<|Wq<|qW 6 9 rfl<|qM rfl<|qH rfl ty37<|qM rfl<|Nl<|Wb<|W.loop_keep (α:=Nat) (fun x=>l.length - x) 1 (fun x=>[(0,.isl (adsC l) l.length),(3,.own 0 0),(8,.base (.int .i64 (x:Int)))]) (fun x=>up mt 0 (some (adC a))) (fun x=>x≤l.length∧(l.take x).any (fun x=>eqA x a)=false) 0 [(0,0)] (.cons (t:=7) rfl (by exact .inl rfl) .nil) (show 0≤l.length∧(l.take 0).any (fun x=>eqA x a)=false from ⟨Nat.zero_le _,rfl⟩) (by decide) ?_ ?_ ?_
 ·exact lC (lR rfl) (lC (lI rfl) (lC (lR rfl) lN))
 ·exact aU (kR rfl) aM
 rintro i hIA ihA
 try (dsimp only at hIA)
 try dsimp only [baseT,List.cons_append,List.nil_append]
 obtain ⟨hi,hno⟩:=hIA
 by_cases hc:i < l.length
 ·have g1:decide ((i:Int) < (l.length:Int))=true:=decide_eq_true (by omega)
  have hxt:=ads_tk hc
  have htm:=any_take hc (fun x=>eqA x a)
  have hat:=hasA_at (a:=a) hc
  have hco:=eqA_comm a l[i]
  refine Wq<|qW 13 14 rfl<|qK rfl<|Nl<|Wq<|Wt rfl ‹_›<|Wu<|Wq<|Wb<|Wq<|qW 18 20 rfl<|qM rfl<|qA rfl<|Nl ?_
  cases he:eqA a l[i]
  ·
   refine Wq<|Wd 24 30 (by decide) rfl mixed rfl<|qG rfl ty54 rfl (Tl rfl)<|qM rfl<|qM rfl<|qJ rfl rfl ty37 ty54 (by omega)<|Od rfl rfl (Lg rfl rfl ty54 rfl hxt)<|Od rfl rfl (LO.eql_ad a l[i] rfl rfl rfl)<|Nl ⟨by kernel_rfl,(Wo rfl ‹_›<|Wu<|qW 40 42 rfl<|qZ rfl (iW _ (by omega))<|qM rfl<|Nl<|WL.renameL [(0,0)] 1 (by decide) ?_ ?_ (ihA (i + 1) (show l.length - (i + 1) < l.length - i from by omega) (show (i + 1)≤l.length∧(l.take (i + 1)).any (fun x=>eqA x a)=false from ⟨by omega,by rw [htm,hno];show eqA l[i] a=false;rw [← hco,he]⟩)))⟩
   ·exact lC (lR rfl) (lC (lI rfl) (lC (lR rfl) (lC (lR rfl) lN)))
   ·exact aU (kR rfl) aM
  ·
   have h1:=hat (hco ▸ he)
   refine Wq<|Wd 24 30 (by decide) rfl mixed rfl<|qG rfl ty54 rfl (Tl rfl)<|qM rfl<|qM rfl<|qJ rfl rfl ty37 ty54 (by omega)<|Od rfl rfl (Lg rfl rfl ty54 rfl hxt)<|Od rfl rfl (LO.eql_ad a l[i] rfl rfl rfl)<|Nl ⟨by kernel_rfl,(Wt rfl ‹_›<|Wq<|qW 34 36 rfl<|qM rfl<|qA rfl<|Nl<|Wz ⟨.inl rfl,_,mt,Rc (Rt rfl) (Rv),aM,?_⟩)⟩
   exact ⟨(i:Int),by rw [h1];exact decide_eq_true (by omega),rfl,rfl⟩
 ·have g1:decide ((i:Int) < (l.length:Int))=false:=decide_eq_false (by omega)
  have h1:hasA l a=false:=by rw [List.take_of_length_le (by omega)] at hno;exact hno
  refine Wq<|qW 13 14 rfl<|qK rfl<|Nl<|Wq<|Wo rfl ‹_›<|Wx<|Wq<|qW 46 47 rfl<|qA rfl<|Nl<|Wz ⟨.inl rfl,_,mt,Rc (Rt rfl) (Rv),aM,?_⟩
  exact ⟨-1,by rw [h1];rfl,rfl,rfl⟩
theorem hasE_any (l:List Ad) (a:Ad) (hl:l.length≤1000):AFn Tryz.prog 112 0 [.isl (adsC l) l.length,.agg (adC a)] mt (.base (.bool (hasA l a))) mt:=by
 refine AFn.eq Tryz.func112 rfl rfl (Nat.le_of_ble_eq_true rfl) ?_
 obtain ⟨_,_,hx,z,hz,rfl,rfl⟩:=idxA_any l a hl
 refine Wq<|qW 0 2 rfl<|qC rfl<|qA rfl<|Nl<|Wq<|qW 6 11 rfl<|qM rfl<|qG rfl ty54 rfl (Tl rfl)<|qY rfl (hx) fok146 rfl<|qGe rfl<|qA rfl<|Nl ?_
 rw [hz]
 refine Wz ⟨.inl rfl,_,mt,Rc (Rt rfl) (Rv),aM,?_⟩
 exact ⟨rfl,rfl⟩
theorem widthE_any (a:Ad):AFn Tryz.prog 147 0 [.agg (adC a)] mt (.base (.int .i64 (widthA a))) mt:=by
 refine AFn.eq Tryz.func147 rfl rfl (Nat.le_of_ble_eq_true rfl) ?_
 obtain ⟨v6,hi,lo⟩:=a
 cases v6
 ·
  refine Wq<|qW 0 2 rfl<|qC rfl<|qA rfl<|Nl<|Wq<|Wq<|qW 6 8 rfl<|qF rfl ty54 rfl<|qL rfl ty4 rfl<|Nl<|Wo rfl rfl<|Wu<|Wq<|qW 17 18 rfl<|qA rfl<|Nl<|Wz ⟨.inl rfl,_,mt,Rc (Rt rfl) (Rv),aM,?_⟩
  exact ⟨rfl,rfl⟩
 ·
  refine Wq<|qW 0 2 rfl<|qC rfl<|qA rfl<|Nl<|Wq<|Wq<|qW 6 8 rfl<|qF rfl ty54 rfl<|qL rfl ty4 rfl<|Nl<|Wt rfl rfl<|Wq<|qW 12 13 rfl<|qA rfl<|Nl<|Wz ⟨.inl rfl,_,mt,Rc (Rt rfl) (Rv),aM,?_⟩
  exact ⟨rfl,rfl⟩
theorem masks8:AFn Tryz.prog 175 0 [.base (.int .i64 8)] mt (.tup [.base (.int .u64 0),.base (.int .u64 255)]) mt:=by
 refine AFn.eq Tryz.func175 rfl rfl (Nat.le_of_ble_eq_true rfl) ?_
 have e:IntKind.u64.wrap (IntKind.u64.wrap (1 * 2 ^ (min (8:Int).toNat IntKind.u64.bits)) - 1)=255:=by decide +kernel
 refine Wq<|qW 0 2 rfl<|qA rfl<|qA rfl<|Nl<|Wq<|Wq<|qW 6 8 rfl<|qM rfl<|qGt rfl<|Nl<|Wo rfl rfl<|Wu<|Wq<|qW 23 29 rfl<|qM rfl<|Od rfl rfl (Ci rfl rfl ty3 ty129 (IntWalk.u64_in _ (by omega)))<|Od rfl rfl (LO.shl rfl rfl rfl (by decide))<|Od rfl rfl (LO.sub rfl rfl rfl)<|qA rfl<|qA rfl<|Nl ?_
 rw [e]
 refine Wz ⟨.inl rfl,_,mt,Rc (Rt rfl) (Rc (Rt rfl) (Rv)),aM,?_⟩
 exact ⟨rfl,rfl⟩
theorem masks64:AFn Tryz.prog 175 0 [.base (.int .i64 64)] mt (.tup [.base (.int .u64 0),.base (.int .u64 18446744073709551615)]) mt:=by
 refine AFn.eq Tryz.func175 rfl rfl (Nat.le_of_ble_eq_true rfl) ?_
 have e:IntKind.u64.wrap (IntKind.u64.wrap (1 * 2 ^ (min (64:Int).toNat IntKind.u64.bits)) - 1)=18446744073709551615:=by decide +kernel
 refine Wq<|qW 0 2 rfl<|qA rfl<|qA rfl<|Nl<|Wq<|Wq<|qW 6 8 rfl<|qM rfl<|qGt rfl<|Nl<|Wo rfl rfl<|Wu<|Wq<|qW 23 29 rfl<|qM rfl<|Od rfl rfl (Ci rfl rfl ty3 ty129 (IntWalk.u64_in _ (by omega)))<|Od rfl rfl (LO.shl rfl rfl rfl (by decide))<|Od rfl rfl (LO.sub rfl rfl rfl)<|qA rfl<|qA rfl<|Nl ?_
 rw [e]
 refine Wz ⟨.inl rfl,_,mt,Rc (Rt rfl) (Rc (Rt rfl) (Rv)),aM,?_⟩
 exact ⟨rfl,rfl⟩
theorem first4 (hi lo:Int) (h1:U64 hi) (h2:U64 lo):AFn Tryz.prog 148 0 [.agg (adC ⟨false,hi,lo⟩),.base (.int .i64 24)] mt (.agg (adC ⟨false,hi,lo / 256 * 256⟩)) mt:=by
 refine AFn.eq Tryz.func148 rfl rfl (Nat.le_of_ble_eq_true rfl) ?_
 have hw:=widthE_any ⟨false,hi,lo⟩
 have hm:=masks8
 have e1:=andNot0 h1
 have e2:=andNot8 h2
 unfold widthA at hw
 refine Wq<|qW 0 2 rfl<|qC rfl<|qB rfl ty54<|Nl<|Wq<|qW 6 16 rfl<|qG rfl ty54 rfl (Tl rfl)<|qY rfl (hw) fok147 rfl<|qM rfl<|Od rfl rfl (LO.sub_in rfl rfl rfl (iW _ (by omega)))<|qY rfl (hm) fok175 rfl<|qM rfl<|qX rfl<|qX rfl<|qA rfl<|qA rfl<|Nl<|Wq<|qW 20 26 rfl<|qF rfl ty54 rfl<|qL rfl ty52 rfl<|qM rfl<|Od rfl rfl (LO.andNot rfl rfl rfl)<|qF rfl ty54 rfl<|qS rfl ty52 (Sl rfl) rfl<|Nl<|Wq<|qW 30 36 rfl<|qF rfl ty54 rfl<|qL rfl ty52 rfl<|qM rfl<|Od rfl rfl (LO.andNot rfl rfl rfl)<|qF rfl ty54 rfl<|qS rfl ty52 (Sl rfl) rfl<|Nl ?_
 rw [e1,e2]
 refine Wq<|qW 40 42 rfl<|qG rfl ty54 rfl (Tl rfl)<|qS rfl ty54 (Sl rfl) rfl<|Nl<|Wz ⟨.inl rfl,_,mt,(Rc (Ra0 rfl rfl ty54 rfl (Tl rfl)) Rv),aM,?_⟩
 exact ⟨rfl,rfl⟩
theorem first6 (hi lo:Int) (h1:U64 hi) (h2:U64 lo):AFn Tryz.prog 148 0 [.agg (adC ⟨true,hi,lo⟩),.base (.int .i64 64)] mt (.agg (adC ⟨true,hi,0⟩)) mt:=by
 refine AFn.eq Tryz.func148 rfl rfl (Nat.le_of_ble_eq_true rfl) ?_
 have hw:=widthE_any ⟨true,hi,lo⟩
 have hm:=masks64
 have e1:=andNot0 h1
 have e2:=andNot64 h2
 unfold widthA at hw
 refine Wq<|qW 0 2 rfl<|qC rfl<|qB rfl ty54<|Nl<|Wq<|qW 6 16 rfl<|qG rfl ty54 rfl (Tl rfl)<|qY rfl (hw) fok147 rfl<|qM rfl<|Od rfl rfl (LO.sub_in rfl rfl rfl (iW _ (by omega)))<|qY rfl (hm) fok175 rfl<|qM rfl<|qX rfl<|qX rfl<|qA rfl<|qA rfl<|Nl<|Wq<|qW 20 26 rfl<|qF rfl ty54 rfl<|qL rfl ty52 rfl<|qM rfl<|Od rfl rfl (LO.andNot rfl rfl rfl)<|qF rfl ty54 rfl<|qS rfl ty52 (Sl rfl) rfl<|Nl<|Wq<|qW 30 36 rfl<|qF rfl ty54 rfl<|qL rfl ty52 rfl<|qM rfl<|Od rfl rfl (LO.andNot rfl rfl rfl)<|qF rfl ty54 rfl<|qS rfl ty52 (Sl rfl) rfl<|Nl ?_
 rw [e1,e2]
 refine Wq<|qW 40 42 rfl<|qG rfl ty54 rfl (Tl rfl)<|qS rfl ty54 (Sl rfl) rfl<|Nl<|Wz ⟨.inl rfl,_,mt,(Rc (Ra0 rfl rfl ty54 rfl (Tl rfl)) Rv),aM,?_⟩
 exact ⟨rfl,rfl⟩
theorem conE4 (a:Ad) (h6:a.v6=false) (hv:validA a.v6 a.hi a.lo=true) (h1:U64 a.hi) (h2:U64 a.lo):AFn Tryz.prog 113 0 [.agg (preC lan4),.agg (adC a)] mt (.base (.bool (in4 a))) mt:=by
 refine AFn.eq Tryz.func113 rfl rfl (Nat.le_of_ble_eq_true rfl) ?_
 obtain ⟨v6,hi,lo⟩:=a
 dsimp only at h6 hv h1 h2
 subst h6
 have hw:=widthE_any ⟨false,hi,lo⟩
 have hf:=first4 hi lo h1 h2
 unfold widthA at hw
 have he:eqA ⟨false,hi,lo / 256 * 256⟩ lan4.ad=in4 ⟨false,hi,lo⟩:=by
  unfold eqA lan4 in4
  rw [Bool.eq_iff_iff]
  unfold validA at hv
  simp at hv
  simp
  omega
 have k1:(false == false)=true:=rfl
 refine Wq<|qW 0 3 rfl<|qC rfl<|qC rfl<|qA rfl<|Nl<|Wq<|Wd 7 35 (by decide) rfl mixed rfl<|qF rfl ty56 rfl<|qF rfl ty54 rfl<|qL rfl ty4 rfl<|qF rfl ty54 rfl<|qL rfl ty4 rfl<|Od rfl rfl (LO.eql_bool rfl rfl rfl ty4)<|qM rfl<|gF rfl rfl ty56 rfl<|gL rfl rfl ty3 rfl<|gGe rfl rfl<|qT rfl rfl rfl<|qM rfl<|gF rfl rfl ty56 rfl<|gL rfl rfl ty3 rfl<|gG rfl rfl ty54 rfl (Tl rfl)<|gY rfl rfl (hw) fok147 rfl<|gLe rfl rfl<|qT rfl rfl rfl<|qM rfl<|gG rfl rfl ty54 rfl (Tl rfl)<|gF rfl rfl ty56 rfl<|gL rfl rfl ty3 rfl<|gY rfl rfl (hf) fok148 rfl<|gF rfl rfl ty56 rfl<|gG rfl rfl ty54 rfl (Tl rfl)<|qU rfl rfl rfl (LO.eql_ad_b ⟨false,hi,lo / 256 * 256⟩ lan4.ad he rfl rfl rfl)<|qT rfl rfl rfl<|qA rfl<|Nl ⟨by kernel_rfl,(Wz ⟨.inl rfl,_,mt,Rc (Rt rfl) (Rv),aM,?_⟩)⟩
 exact ⟨rfl,rfl⟩
theorem conE6 (a:Ad) (h6:a.v6=true) (h1:U64 a.hi) (h2:U64 a.lo):AFn Tryz.prog 113 0 [.agg (preC lan6),.agg (adC a)] mt (.base (.bool (in6 a))) mt:=by
 refine AFn.eq Tryz.func113 rfl rfl (Nat.le_of_ble_eq_true rfl) ?_
 obtain ⟨v6,hi,lo⟩:=a
 dsimp only at h6 h1 h2
 subst h6
 have hw:=widthE_any ⟨true,hi,lo⟩
 have hf:=first6 hi lo h1 h2
 unfold widthA at hw
 have he:eqA ⟨true,hi,0⟩ lan6.ad=in6 ⟨true,hi,lo⟩:=by
  unfold eqA lan6 in6
  rw [Bool.eq_iff_iff]
  simp
 refine Wq<|qW 0 3 rfl<|qC rfl<|qC rfl<|qA rfl<|Nl<|Wq<|Wd 7 35 (by decide) rfl mixed rfl<|qF rfl ty56 rfl<|qF rfl ty54 rfl<|qL rfl ty4 rfl<|qF rfl ty54 rfl<|qL rfl ty4 rfl<|Od rfl rfl (LO.eql_bool rfl rfl rfl ty4)<|qM rfl<|gF rfl rfl ty56 rfl<|gL rfl rfl ty3 rfl<|gGe rfl rfl<|qT rfl rfl rfl<|qM rfl<|gF rfl rfl ty56 rfl<|gL rfl rfl ty3 rfl<|gG rfl rfl ty54 rfl (Tl rfl)<|gY rfl rfl (hw) fok147 rfl<|gLe rfl rfl<|qT rfl rfl rfl<|qM rfl<|gG rfl rfl ty54 rfl (Tl rfl)<|gF rfl rfl ty56 rfl<|gL rfl rfl ty3 rfl<|gY rfl rfl (hf) fok148 rfl<|gF rfl rfl ty56 rfl<|gG rfl rfl ty54 rfl (Tl rfl)<|qU rfl rfl rfl (LO.eql_ad_b ⟨true,hi,0⟩ lan6.ad he rfl rfl rfl)<|qT rfl rfl rfl<|qA rfl<|Nl ⟨by kernel_rfl,(Wz ⟨.inl rfl,_,mt,Rc (Rt rfl) (Rv),aM,?_⟩)⟩
 exact ⟨rfl,rfl⟩
def solM (a:Ad):List Int:=if a.v6=true then [51,51,255,IntKind.u8.wrap (a.lo.fdiv (2 ^ (min (16:Int).toNat IntKind.u64.bits))),IntKind.u8.wrap (a.lo.fdiv (2 ^ (min (8:Int).toNat IntKind.u64.bits))),IntKind.u8.wrap a.lo] else [0,0,0,0,0,0]
theorem solM_len (a:Ad):(solM a).length=6:=by unfold solM;split<;>rfl
theorem solE_any (a:Ad):AFn Tryz.prog 118 0 [.agg (adC a)] mt (.agg (bytesC (solM a))) mt:=by
 refine AFn.eq Tryz.func118 rfl rfl (Nat.le_of_ble_eq_true rfl) ?_
 obtain ⟨v6,hi,lo⟩:=a
 cases v6
 ·
  refine Wq<|qW 0 2 rfl<|qC rfl<|qB rfl ty23<|Nl<|Wq<|Wq<|qW 6 9 rfl<|qF rfl ty54 rfl<|qL rfl ty4 rfl<|qO rfl<|Nl<|Wt rfl rfl<|Wq<|qW 13 15 rfl<|Od rfl rfl (LO.build_ar rfl ty23 ty5 .nil)<|qS rfl ty23 (Sl rfl) rfl<|Nl<|Wz ⟨.inl rfl,_,mt,(Rc (Ra0 rfl rfl ty23 rfl (Tl rfl)) Rv),aM,?_⟩
  exact ⟨rfl,rfl⟩
 ·
  refine Wq<|qW 0 2 rfl<|qC rfl<|qB rfl ty23<|Nl<|Wq<|Wq<|qW 6 9 rfl<|qF rfl ty54 rfl<|qL rfl ty4 rfl<|qO rfl<|Nl<|Wo rfl rfl<|Wu<|Wq<|qW 19 32 rfl<|qF rfl ty54 rfl<|qL rfl ty52 rfl<|Od rfl rfl (LO.shr rfl rfl rfl (by omega))<|Od rfl rfl (LO.conv rfl rfl ty52 ty5)<|qF rfl ty54 rfl<|qL rfl ty52 rfl<|Od rfl rfl (LO.shr rfl rfl rfl (by omega))<|Od rfl rfl (LO.conv rfl rfl ty52 ty5)<|qF rfl ty54 rfl<|qL rfl ty52 rfl<|Od rfl rfl (LO.conv rfl rfl ty52 ty5)<|Od rfl rfl (LO.build_ar rfl ty23 ty5 (.cons rfl rfl rfl rfl (Sl rfl) (.cons rfl rfl rfl rfl (Sl rfl) (.cons rfl rfl rfl rfl (Sl rfl) (.cons rfl rfl rfl rfl (Sl rfl) (.cons rfl rfl rfl rfl (Sl rfl) (.cons rfl rfl rfl rfl (Sl rfl) .nil)))))))<|qS rfl ty23 (Sl rfl) rfl<|Nl<|Wz ⟨.inl rfl,_,mt,(Rc (Ra0 rfl rfl ty23 rfl (Tl rfl)) Rv),aM,?_⟩
  exact ⟨rfl,rfl⟩
structure RlG (r:Rl):Prop where
 nm:r.macs.length≤1000
 macs:∀ m,m∈r.macs→m.length=6
 n4:r.v4.length≤1000
 n6:r.v6.length≤1000
theorem RlOk.g {r:Rl} (h:RlOk r):RlG r:=⟨h.nm.2,fun m hm=>(h.macs m hm).1,h.n4,h.n6⟩
theorem grE_any (f:Fr) (hf:FrX f):AFn Tryz.prog 34 0 [.agg (frC f)] mt (.base (.bool (grpE f.dst))) mt:=by
 refine AFn.eq Tryz.func34 rfl rfl (Nat.le_of_ble_eq_true rfl) ?_
 have hg:=grpE_any f.dst hf.ok.d6
 obtain ⟨fd,fs,fv,ft,fx⟩:=f
 have p6:=hf.ok.d6
 have q6:=hf.ok.s6
 clear hf
 dsimp only at p6 q6 hg
 obtain ⟨p0,p1,p2,p3,p4,p5,rfl⟩:=six_of p6
 obtain ⟨q0,q1,q2,q3,q4,q5,rfl⟩:=six_of q6
 refine Wq<|qW 0 2 rfl<|qC rfl<|qA rfl<|Nl<|Wq<|qW 6 10 rfl<|qF rfl ty26 rfl<|qG rfl ty23 rfl (Tl rfl)<|qY rfl (hg) fok73 rfl<|qA rfl<|Nl<|Wz ⟨.inl rfl,_,mt,Rc (Rt rfl) (Rv),aM,?_⟩
 exact ⟨rfl,rfl⟩
def plainF (bc gr:Bool):Int:=if bc then 10 else if gr then 5 else 0
theorem plainE_any (f:Fr) (hf:FrX f):AFn Tryz.prog 64 0 [.agg (frC f)] mt (.base (.int .i64 (plainF (decide (f.dst=bcM)) (grpE f.dst)))) mt:=by
 refine AFn.eq Tryz.func64 rfl rfl (Nat.le_of_ble_eq_true rfl) ?_
 have hg:=grE_any f hf
 generalize grpE f.dst=gr at *
 obtain ⟨bc,hbc⟩:∃ b,decide (f.dst=bcM)=b:=⟨_,rfl⟩
 rw [hbc]
 obtain ⟨fd,fs,fv,ft,fx⟩:=f
 have p6:=hf.ok.d6
 have q6:=hf.ok.s6
 clear hf
 dsimp only at p6 q6 hg hbc
 obtain ⟨p0,p1,p2,p3,p4,p5,rfl⟩:=six_of p6
 obtain ⟨q0,q1,q2,q3,q4,q5,rfl⟩:=six_of q6
 refine Wq<|qW 0 2 rfl<|qC rfl<|qA rfl<|Nl<|Wq<|Wb ?_
 cases bc
 ·
  refine Wq<|Wd 6 11 (by decide) rfl mixed rfl<|qF rfl ty26 rfl<|qG rfl ty23 rfl (Tl rfl)<|qY rfl (bcE_any) fok114 rfl<|Od rfl rfl (LO.eql_mac_b [p0,p1,p2,p3,p4,p5] bcM hbc rfl rfl rfl rfl rfl)<|qA rfl<|Nl ⟨by kernel_rfl,(Wo rfl rfl ?_)⟩
  cases gr
  ·
   refine Wq<|qW 20 23 rfl<|qG rfl ty26 rfl (Tl rfl)<|qY rfl (hg) fok34 rfl<|qA rfl<|Nl<|Wo rfl rfl<|Wu<|Wq<|qW 32 33 rfl<|qA rfl<|Nl<|Wz ⟨.inl rfl,_,mt,Rc (Rt rfl) (Rv),aM,?_⟩
   exact ⟨rfl,rfl⟩
  ·
   refine Wq<|qW 20 23 rfl<|qG rfl ty26 rfl (Tl rfl)<|qY rfl (hg) fok34 rfl<|qA rfl<|Nl<|Wt rfl rfl<|Wq<|qW 27 28 rfl<|qA rfl<|Nl<|Wz ⟨.inl rfl,_,mt,Rc (Rt rfl) (Rv),aM,?_⟩
   exact ⟨rfl,rfl⟩
 ·
  refine Wq<|Wd 6 11 (by decide) rfl mixed rfl<|qF rfl ty26 rfl<|qG rfl ty23 rfl (Tl rfl)<|qY rfl (bcE_any) fok114 rfl<|Od rfl rfl (LO.eql_mac_b [p0,p1,p2,p3,p4,p5] bcM hbc rfl rfl rfl rfl rfl)<|qA rfl<|Nl ⟨by kernel_rfl,(Wt rfl rfl<|Wq<|qW 15 16 rfl<|qA rfl<|Nl<|Wz ⟨.inl rfl,_,mt,Rc (Rt rfl) (Rv),aM,?_⟩)⟩
  exact ⟨rfl,rfl⟩
def resolF (e0 fm own tin gr bc:Bool):Int:=if e0 then 6 else if !fm || !own then 7 else if !tin then 8 else if gr && !bc then 5 else 0
def resolV (r:Rl) (f:Fr):Int:=resolF (arpE f.data != 0) (decide ((arpOf f.data).fm=f.src)) (hasA r.v4 (arpOf f.data).fr) (in4 (arpOf f.data).tt) (grpE f.dst) (decide (f.dst=bcM))
theorem arp_fit {b:List Int} (h:arpE b=0):(arpOf b).fm.length=6∧(arpOf b).tm.length=6∧ip4 (arpOf b).fr=true∧ip4 (arpOf b).tt=true∧(U64 (arpOf b).fr.hi∧U64 (arpOf b).fr.lo)∧U64 (arpOf b).tt.hi∧U64 (arpOf b).tt.lo:=by
 have h28:28≤b.length:=by
  rcases Nat.lt_or_ge b.length 28 with h3|h3
  ·unfold arpE at h;rw [if_pos h3] at h;cases h
  ·exact h3
 unfold arpE at h
 rw [if_neg (by omega)] at h
 have hv:(hdE (b.take 6) && arpV (arpOf b))=true:=by
  cases hc:(hdE (b.take 6) && arpV (arpOf b))
  ·rw [hc] at h;cases h
  ·rfl
 rw [Bool.and_eq_true] at hv
 have hv2:=hv.2
 unfold arpV at hv2
 simp only [Bool.and_eq_true] at hv2
 refine ⟨?_,?_,hv2.2.1,hv2.2.2,?_,?_⟩
 ·show ((b.drop 8).take 6).length=6
  rw [List.length_take,List.length_drop];omega
 ·show ((b.drop 18).take 6).length=6
  rw [List.length_take,List.length_drop];omega
 ·exact fb_bd _
 ·exact fb_bd _
set_option maxHeartbeats 2000000 in
theorem resolE_any (r:Rl) (hr:RlG r) (f:Fr) (hf:FrX f):AFn Tryz.prog 63 0 [.agg (ruleC r),.agg (preC lan4),.agg (frC f)] mt (.base (.int .i64 (resolV r f))) mt:=by
 refine AFn.eq Tryz.func63 rfl rfl (Nat.le_of_ble_eq_true rfl) ?_
 have hg:=grE_any f hf
 have harp:=arp_any f.data hf.ok.bB
 have hown:=hasE_any r.v4 (arpOf f.data).fr hr.n4
 have hfit:=arp_fit (b:=f.data)
 have hcon:=fun h=>conE4 (arpOf f.data).tt h
 unfold resolV
 generalize grpE f.dst=gr at *
 obtain ⟨bc,hbc⟩:∃ b,decide (f.dst=bcM)=b:=⟨_,rfl⟩
 rw [hbc]
 unfold arpR at harp
 generalize arpOf f.data=A at *
 generalize arpE f.data=ae at *
 obtain ⟨fm,hfm⟩:∃ b,decide (A.fm=f.src)=b:=⟨_,rfl⟩
 rw [hfm]
 generalize hasA r.v4 A.fr=own at *
 generalize htin:in4 A.tt=tin at *
 obtain ⟨fd,fs,fv,ft,fx⟩:=f
 have p6:=hf.ok.d6
 have q6:=hf.ok.s6
 clear hf
 dsimp only at p6 q6 hg hbc hfm harp
 obtain ⟨p0,p1,p2,p3,p4,p5,rfl⟩:=six_of p6
 obtain ⟨q0,q1,q2,q3,q4,q5,rfl⟩:=six_of q6
 refine Wq<|qW 0 4 rfl<|qC rfl<|qC rfl<|qC rfl<|qA rfl<|Nl ?_
 by_cases he:ae=0
 case' neg =>
  have k:(ae != 0)=true:=by simpa using he
  rw [if_neg he] at harp
  rw [k]
  refine Wq<|qW 8 17 rfl<|qF rfl ty26 rfl<|qL rfl ty24 rfl<|qY rfl (harp) fok111 rfl<|qM rfl<|qX rfl<|qX rfl<|qB rfl ty78<|qS rfl ty78 (Sl rfl) rfl<|qA rfl<|Nl<|Wq<|Wb<|Wq<|qW 21 24 rfl<|qM rfl<|qN rfl<|qA rfl<|Nl<|Wt rfl ‹_›<|Wq<|qW 28 29 rfl<|qA rfl<|Nl<|Wz ⟨.inl rfl,_,mt,Rc (Rt rfl) (Rv),aM,?_⟩
  exact ⟨rfl,rfl⟩
 case' pos =>
  subst he
  obtain ⟨l1,l2,l3,l4,l5,l6⟩:=hfit rfl
  have hco2:=hcon (ip4_v6 l4) (by unfold ip4 at l4;simp only [Bool.and_eq_true] at l4;exact l4.1) l6.1 l6.2
  rw [if_pos rfl] at harp
  clear hfit htin hcon l3 l4 l5 l6
  obtain ⟨op,am,afr,tm,att⟩:=A
  dsimp only at l1 l2 hfm hown hco2
  obtain ⟨m0,m1,m2,m3,m4,m5,rfl⟩:=six_of l1
  obtain ⟨n0,n1,n2,n3,n4,n5,rfl⟩:=six_of l2
  obtain ⟨r1,r2,r3,r4,r5,r6,r7,r8⟩:=r
  dsimp only at hown
  clear hr
  obtain ⟨a6,ah,al⟩:=afr
  obtain ⟨t6,th,tl⟩:=att
  refine Wq<|qW 8 17 rfl<|qF rfl ty26 rfl<|qL rfl ty24 rfl<|qY rfl (harp) fok111 rfl<|qM rfl<|qX rfl<|qX rfl<|qB rfl ty78<|qS rfl ty78 (Sl rfl) rfl<|qA rfl<|Nl<|Wq<|Wb<|Wq<|qW 21 24 rfl<|qM rfl<|qN rfl<|qA rfl<|Nl<|Wo rfl (rfl) ?_
  cases fm
  ·
   refine Wq<|qW 33 47 rfl<|qF rfl ty78 rfl<|qG rfl ty23 rfl (Tl rfl)<|qF rfl ty26 rfl<|qG rfl ty23 rfl (Tl rfl)<|Od rfl rfl (LO.neq_mac_b [m0,m1,m2,m3,m4,m5] [q0,q1,q2,q3,q4,q5] hfm rfl rfl rfl rfl rfl)<|qM rfl<|qD rfl rfl rfl<|qD rfl rfl rfl<|qD rfl rfl rfl<|qD rfl rfl rfl<|qD rfl rfl rfl<|qD rfl rfl rfl<|qT rfl rfl rfl<|qA rfl<|Nl<|Wt rfl rfl<|Wq<|qW 51 52 rfl<|qA rfl<|Nl<|Wz ⟨.inl rfl,_,mt,Rc (Rt rfl) (Rv),aM,?_⟩
   exact ⟨rfl,rfl⟩
  ·
   cases own
   ·
    refine Wq<|qW 33 47 rfl<|qF rfl ty78 rfl<|qG rfl ty23 rfl (Tl rfl)<|qF rfl ty26 rfl<|qG rfl ty23 rfl (Tl rfl)<|Od rfl rfl (LO.neq_mac_b [m0,m1,m2,m3,m4,m5] [q0,q1,q2,q3,q4,q5] hfm rfl rfl rfl rfl rfl)<|qM rfl<|gF rfl rfl ty39 rfl<|gL rfl rfl ty37 rfl<|gF rfl rfl ty78 rfl<|gG rfl rfl ty54 rfl (Tl rfl)<|gY rfl rfl (hown) fok112 rfl<|gO rfl rfl<|qP rfl rfl rfl<|qA rfl<|Nl<|Wt rfl rfl<|Wq<|qW 51 52 rfl<|qA rfl<|Nl<|Wz ⟨.inl rfl,_,mt,Rc (Rt rfl) (Rv),aM,?_⟩
    exact ⟨rfl,rfl⟩
   ·
    refine Wq<|qW 33 47 rfl<|qF rfl ty78 rfl<|qG rfl ty23 rfl (Tl rfl)<|qF rfl ty26 rfl<|qG rfl ty23 rfl (Tl rfl)<|Od rfl rfl (LO.neq_mac_b [m0,m1,m2,m3,m4,m5] [q0,q1,q2,q3,q4,q5] hfm rfl rfl rfl rfl rfl)<|qM rfl<|gF rfl rfl ty39 rfl<|gL rfl rfl ty37 rfl<|gF rfl rfl ty78 rfl<|gG rfl rfl ty54 rfl (Tl rfl)<|gY rfl rfl (hown) fok112 rfl<|gO rfl rfl<|qP rfl rfl rfl<|qA rfl<|Nl<|Wo rfl rfl ?_
    cases tin
    ·
     refine Wq<|qW 56 62 rfl<|qG rfl ty56 rfl (Tl rfl)<|qF rfl ty78 rfl<|qG rfl ty54 rfl (Tl rfl)<|qY rfl (hco2) fok113 rfl<|qO rfl<|qA rfl<|Nl<|Wt rfl rfl<|Wq<|qW 66 67 rfl<|qA rfl<|Nl<|Wz ⟨.inl rfl,_,mt,Rc (Rt rfl) (Rv),aM,?_⟩
     exact ⟨rfl,rfl⟩
    ·
     refine Wq<|qW 56 62 rfl<|qG rfl ty56 rfl (Tl rfl)<|qF rfl ty78 rfl<|qG rfl ty54 rfl (Tl rfl)<|qY rfl (hco2) fok113 rfl<|qO rfl<|qA rfl<|Nl<|Wo rfl rfl ?_
     cases gr
     ·
      refine Wq<|Wd 71 80 (by decide) rfl mixed rfl<|qG rfl ty26 rfl (Tl rfl)<|qY rfl (hg) fok34 rfl<|qM rfl<|qD rfl rfl rfl<|qD rfl rfl rfl<|qD rfl rfl rfl<|qD rfl rfl rfl<|qP rfl rfl rfl<|qA rfl<|Nl ⟨by kernel_rfl,(Wo rfl rfl<|Wu<|Wq<|qW 89 90 rfl<|qA rfl<|Nl<|Wz ⟨.inl rfl,_,mt,Rc (Rt rfl) (Rv),aM,?_⟩)⟩
      exact ⟨rfl,rfl⟩
     ·
      cases bc
      ·
       refine Wq<|Wd 71 80 (by decide) rfl mixed rfl<|qG rfl ty26 rfl (Tl rfl)<|qY rfl (hg) fok34 rfl<|qM rfl<|gF rfl rfl ty26 rfl<|gG rfl rfl ty23 rfl (Tl rfl)<|gY rfl rfl (bcE_any) fok114 rfl<|qU rfl rfl rfl (LO.neq_mac_b [p0,p1,p2,p3,p4,p5] bcM hbc rfl rfl rfl rfl rfl)<|qT rfl rfl rfl<|qA rfl<|Nl ⟨by kernel_rfl,(Wt rfl rfl<|Wq<|qW 84 85 rfl<|qA rfl<|Nl<|Wz ⟨.inl rfl,_,mt,Rc (Rt rfl) (Rv),aM,?_⟩)⟩
       exact ⟨rfl,rfl⟩
      ·
       refine Wq<|Wd 71 80 (by decide) rfl mixed rfl<|qG rfl ty26 rfl (Tl rfl)<|qY rfl (hg) fok34 rfl<|qM rfl<|gF rfl rfl ty26 rfl<|gG rfl rfl ty23 rfl (Tl rfl)<|gY rfl rfl (bcE_any) fok114 rfl<|qU rfl rfl rfl (LO.neq_mac_b [p0,p1,p2,p3,p4,p5] bcM hbc rfl rfl rfl rfl rfl)<|qT rfl rfl rfl<|qA rfl<|Nl ⟨by kernel_rfl,(Wo rfl rfl<|Wu<|Wq<|qW 89 90 rfl<|qA rfl<|Nl<|Wz ⟨.inl rfl,_,mt,Rc (Rt rfl) (Rv),aM,?_⟩)⟩
       exact ⟨rfl,rfl⟩
theorem decR_tg {p:Pk} (he:(decR p).2=0) (hk:(decR p).1.k=135∨(decR p).1.k=136):(decR p).1.tg.v6=true∧U64 (decR p).1.tg.hi∧U64 (decR p).1.tg.lo:=by
 unfold decR at he hk ⊢
 split at he
 ·rename_i h;exact absurd he h
 ·rename_i h
  rw [if_neg h] at hk ⊢
  unfold rdB at he hk ⊢
  split at he
  ·cases he
  ·rename_i h1
   rw [if_neg h1] at hk ⊢
   split at he
   ·cases he
   ·rename_i h2
    rw [if_neg h2] at hk ⊢
    split at he
    ·cases he
    ·split at he
     ·cases he
     ·rename_i r hr h3
      simp only [hr] at hk ⊢
      rw [if_neg h3] at hk ⊢
      dsimp only at hk ⊢
      have ht:targB (gB p.bs 0)=true:=by unfold targB;simp;omega
      have hf:fixN (gB p.bs 0)=20:=by
       rcases hk with e|e<;>rw [e]<;>decide
      unfold tgF adOf
      rw [if_pos ht]
      have hl:(((p.bs.drop 4).drop 4).take (20 - 4)).length=16:=by
       rw [List.length_take,List.length_drop];omega
      rw [hl]
      exact ⟨rfl,fb_bd _⟩
def sndF (pb has lnk own src k6:Bool):Bool:=if has && !lnk then false else if !pb && !src then false else own || !k6
def sndV (r:Rl) (f:Fr) (p:Pk) (n:Nb):Bool:=sndF (n.k == 135 && (eqA p.s ⟨true,0,0⟩ && hasA r.v6 n.tg)) n.has (decide (n.ln=f.src)) (hasA r.v6 n.tg) (hasA r.v6 p.s) (n.k == 136)
set_option maxHeartbeats 4000000 in
theorem sender_any (r:Rl) (hr:RlG r) (f:Fr) (hf:FrX f) (p:Pk) (n:Nb) (hn:n.ln.length=6):AFn Tryz.prog 117 0 [.agg (ruleC r),.agg (frC f),.agg (pkC p),.agg (nbC n)] mt (.base (.bool (sndV r f p n))) mt:=by
 refine AFn.eq Tryz.func117 rfl rfl (Nat.le_of_ble_eq_true rfl) ?_
 have hown:=hasE_any r.v6 n.tg hr.n6
 have hsrc:=hasE_any r.v6 p.s hr.n6
 unfold sndV
 generalize hasA r.v6 n.tg=own at *
 generalize hasA r.v6 p.s=src at *
 obtain ⟨z,hz⟩:∃ b,eqA p.s ⟨true,0,0⟩=b:=⟨_,rfl⟩
 rw [hz]
 obtain ⟨lnk,hlnk⟩:∃ b,decide (n.ln=f.src)=b:=⟨_,rfl⟩
 rw [hlnk]
 obtain ⟨b5,h5⟩:∃ b,(n.k == 135)=b:=⟨_,rfl⟩
 rw [h5]
 obtain ⟨pb,hpb⟩:∃ b,(b5 && (z && own))=b:=⟨_,rfl⟩
 rw [hpb]
 obtain ⟨fd,fs,fv,ft,fx⟩:=f
 have p6:=hf.ok.d6
 have q6:=hf.ok.s6
 clear hf
 obtain ⟨r1,r2,r3,r4,r5,r6,r7,r8⟩:=r
 clear hr
 obtain ⟨k,fl,tg,has,ln⟩:=n
 obtain ⟨ps,pd,pp,pt,pbs⟩:=p
 dsimp only at p6 q6 hn hlnk h5 hown hsrc hz
 obtain ⟨p0,p1,p2,p3,p4,p5,rfl⟩:=six_of p6
 obtain ⟨q0,q1,q2,q3,q4,q5,rfl⟩:=six_of q6
 obtain ⟨m0,m1,m2,m3,m4,m5,rfl⟩:=six_of hn
 obtain ⟨t6,th,tl⟩:=tg
 obtain ⟨s6,sh,sl⟩:=ps
 obtain ⟨e6,eh,el⟩:=pd
 refine Wq<|qW 0 5 rfl<|qC rfl<|qC rfl<|qC rfl<|qC rfl<|qA rfl<|Nl<|Wq<|qW 9 15 rfl<|qF rfl ty39 rfl<|qL rfl ty37 rfl<|qF rfl ty87 rfl<|qG rfl ty54 rfl (Tl rfl)<|qY rfl (hown) fok112 rfl<|qA rfl<|Nl<|Wq<|W.joinK (α:=Bool) 4 (fun x=>[(4,.own 0 0),(5,.own 1 0),(6,.own 2 0),(7,.own 3 0),(10,.base (.bool x))]) (fun x=>up (up (up (up mt 0 (some (ruleC ⟨r1,r2,r3,r4,r5,r6,r7,r8⟩))) 1 (some (frC ⟨[p0,p1,p2,p3,p4,p5],[q0,q1,q2,q3,q4,q5],fv,ft,fx⟩))) 2 (some (pkC ⟨⟨s6,sh,sl⟩,⟨e6,eh,el⟩,pp,pt,pbs⟩))) 3 (some (nbC ⟨k,fl,⟨t6,th,tl⟩,has,[m0,m1,m2,m3,m4,m5]⟩))) (fun x=>x=pb) (.cons (t:=9) rfl (by exact .inl rfl) .nil) ?_ ?_
 rotate_left
 rintro pv hIJ
 try (dsimp only at hIJ)
 try dsimp only [joinT,baseT,List.cons_append,List.nil_append]
 rotate_right
 ·
  cases b5
  ·
   refine qW 19 32 rfl<|qF rfl ty87 rfl<|qL rfl ty3 rfl<|qE rfl<|qM rfl<|qD rfl ‹_› rfl<|qD rfl ‹_› rfl<|qD rfl ‹_› rfl<|qD rfl ‹_› rfl<|qP rfl ‹_› rfl<|qM rfl<|qD rfl rfl rfl<|qP rfl rfl rfl<|qA rfl<|Nl ?_
   intro yJ KJ hJ
   refine W.renameJ [(0,0),(1,1),(2,2),(3,3)] 4 (by decide) ?_ ?_ (hJ false (show false=pb from hpb))
   ·exact lC (lI rfl) (lC (lI rfl) (lC (lI rfl) (lC (lI rfl) (lC (lR rfl) (lC (lR rfl) lN)))))
   ·exact aU (kR rfl) (aU (kR rfl) (aU (kR rfl) (aU (kR rfl) aM)))
  ·
   cases z
   ·
    refine qW 19 32 rfl<|qF rfl ty87 rfl<|qL rfl ty3 rfl<|qE rfl<|qM rfl<|gF rfl ‹_› ty83 rfl<|gG rfl ‹_› ty54 rfl (Tl rfl)<|qU rfl ‹_› rfl (Bs rfl ty54 (.cons rfl rfl rfl rfl (Sl rfl) .nil))<|qU rfl ‹_› rfl (LO.eql_ad_b ⟨s6,sh,sl⟩ ⟨true,0,0⟩ hz rfl rfl rfl)<|qT rfl ‹_› rfl<|qM rfl<|qD rfl rfl rfl<|qP rfl rfl rfl<|qA rfl<|Nl ?_
    intro yJ KJ hJ
    refine W.renameJ [(0,0),(1,1),(2,2),(3,3)] 4 (by decide) ?_ ?_ (hJ false (show false=pb from hpb))
    ·exact lC (lI rfl) (lC (lI rfl) (lC (lI rfl) (lC (lI rfl) (lC (lR rfl) (lC (lR rfl) lN)))))
    ·exact aU (kR rfl) (aU (kR rfl) (aU (kR rfl) (aU (kR rfl) aM)))
   ·
    refine qW 19 32 rfl<|qF rfl ty87 rfl<|qL rfl ty3 rfl<|qE rfl<|qM rfl<|gF rfl ‹_› ty83 rfl<|gG rfl ‹_› ty54 rfl (Tl rfl)<|qU rfl ‹_› rfl (Bs rfl ty54 (.cons rfl rfl rfl rfl (Sl rfl) .nil))<|qU rfl ‹_› rfl (LO.eql_ad_b ⟨s6,sh,sl⟩ ⟨true,0,0⟩ hz rfl rfl rfl)<|qT rfl ‹_› rfl<|qM rfl<|gM rfl rfl<|qT rfl rfl rfl<|qA rfl<|Nl ?_
    intro yJ KJ hJ
    refine W.renameJ [(0,0),(1,1),(2,2),(3,3)] 4 (by decide) ?_ ?_ (hJ own (show own=pb from by rw [← hpb];cases own<;>rfl))
    ·exact lC (lI rfl) (lC (lI rfl) (lC (lI rfl) (lC (lI rfl) (lC (lR rfl) (lC (lR rfl) lN)))))
    ·exact aU (kR rfl) (aU (kR rfl) (aU (kR rfl) (aU (kR rfl) aM)))
 subst hIJ
 clear hpb h5 hz
 refine Wq<|Wb ?_
 cases has
 case' false =>
  refine Wq<|qW 36 46 rfl<|qF rfl ty87 rfl<|qL rfl ty4 rfl<|qM rfl<|qD rfl rfl rfl<|qD rfl rfl rfl<|qD rfl rfl rfl<|qD rfl rfl rfl<|qD rfl rfl rfl<|qP rfl rfl rfl<|qA rfl<|Nl<|Wo rfl rfl ?_
 case' true =>
  cases lnk
  case' false =>
   refine Wq<|qW 36 46 rfl<|qF rfl ty87 rfl<|qL rfl ty4 rfl<|qM rfl<|gF rfl rfl ty87 rfl<|gG rfl rfl ty23 rfl (Tl rfl)<|gF rfl rfl ty26 rfl<|gG rfl rfl ty23 rfl (Tl rfl)<|qU rfl rfl rfl (LO.neq_mac_b [m0,m1,m2,m3,m4,m5] [q0,q1,q2,q3,q4,q5] hlnk rfl rfl rfl rfl rfl)<|qT rfl rfl rfl<|qA rfl<|Nl<|Wt rfl rfl<|Wq<|qW 50 51 rfl<|qA rfl<|Nl<|Wz ⟨.inl rfl,_,mt,Rc (Rt rfl) (Rv),aM,?_⟩
   exact ⟨rfl,rfl⟩
  case' true =>
   refine Wq<|qW 36 46 rfl<|qF rfl ty87 rfl<|qL rfl ty4 rfl<|qM rfl<|gF rfl rfl ty87 rfl<|gG rfl rfl ty23 rfl (Tl rfl)<|gF rfl rfl ty26 rfl<|gG rfl rfl ty23 rfl (Tl rfl)<|qU rfl rfl rfl (LO.neq_mac_b [m0,m1,m2,m3,m4,m5] [q0,q1,q2,q3,q4,q5] hlnk rfl rfl rfl rfl rfl)<|qT rfl rfl rfl<|qA rfl<|Nl<|Wo rfl rfl ?_
 all_goals
  cases pv
  case' true =>
   repeat (refine Wq ?_)
   refine qW 55 66 rfl<|qM rfl<|qO rfl<|qM rfl<|qD rfl rfl rfl<|qD rfl rfl rfl<|qD rfl rfl rfl<|qD rfl rfl rfl<|qD rfl rfl rfl<|qD rfl rfl rfl<|qP rfl rfl rfl<|qA rfl<|Nl<|Wo rfl rfl ?_
  case' false =>
   cases src
   case' false =>
    repeat (refine Wq ?_)
    refine qW 55 66 rfl<|qM rfl<|qO rfl<|qM rfl<|gF rfl rfl ty39 rfl<|gL rfl rfl ty37 rfl<|gF rfl rfl ty83 rfl<|gG rfl rfl ty54 rfl (Tl rfl)<|gY rfl rfl (hsrc) fok112 rfl<|gO rfl rfl<|qT rfl rfl rfl<|qA rfl<|Nl<|Wt rfl rfl ?_
    repeat (refine Wq ?_)
    refine qW 70 71 rfl<|qA rfl<|Nl<|Wz ⟨.inl rfl,_,mt,Rc (Rt rfl) (Rv),aM,?_⟩
    exact ⟨rfl,rfl⟩
   case' true =>
    repeat (refine Wq ?_)
    refine qW 55 66 rfl<|qM rfl<|qO rfl<|qM rfl<|gF rfl rfl ty39 rfl<|gL rfl rfl ty37 rfl<|gF rfl rfl ty83 rfl<|gG rfl rfl ty54 rfl (Tl rfl)<|gY rfl rfl (hsrc) fok112 rfl<|gO rfl rfl<|qT rfl rfl rfl<|qA rfl<|Nl<|Wo rfl rfl ?_
  all_goals
   refine Wu ?_
   cases own
   ·
    repeat (refine Wq ?_)
    refine qW 75 82 rfl<|qM rfl<|qM rfl<|gF rfl rfl ty87 rfl<|gL rfl rfl ty3 rfl<|gN rfl rfl<|qP rfl rfl rfl<|qA rfl<|Nl<|Wz ⟨.inl rfl,_,mt,Rc (Rt rfl) (Rv),aM,?_⟩
    exact ⟨rfl,rfl⟩
   ·
    repeat (refine Wq ?_)
    refine qW 75 82 rfl<|qM rfl<|qM rfl<|qD rfl rfl rfl<|qD rfl rfl rfl<|qD rfl rfl rfl<|qT rfl rfl rfl<|qA rfl<|Nl<|Wz ⟨.inl rfl,_,mt,Rc (Rt rfl) (Rv),aM,?_⟩
    exact ⟨rfl,rfl⟩
def nbF (e0 k5 k6 tin snd gr sol:Bool):Int:=if e0 then 6 else if !k5 && !k6 then 9 else if !tin then 8 else if !snd then 7 else if gr && (!k5 || !sol) then 5 else 0
def nbdV (r:Rl) (f:Fr) (p:Pk):Int:=nbF ((decR p).2 != 0) ((decR p).1.k == 135) ((decR p).1.k == 136) (in6 (decR p).1.tg) (sndV r f p (decR p).1) (grpE f.dst) (decide (f.dst=solM (decR p).1.tg))
structure PkG (p:Pk):Prop where
 bB:IsB p.bs
 s1:U64 p.s.hi
 s2:U64 p.s.lo
 d1:U64 p.d.hi
 d2:U64 p.d.lo
theorem dcP_g {b:List Int} (hB:IsB b):PkG (dcP b):=by
 obtain ⟨h1,h2,h3⟩:=dcP_ok b hB
 exact ⟨h1,h2.1,h2.2,h3.1,h3.2⟩
set_option maxHeartbeats 4000000 in
theorem nbE_any (r:Rl) (hr:RlG r) (f:Fr) (hf:FrX f) (p:Pk) (hp:PkG p):AFn Tryz.prog 66 0 [.agg (ruleC r),.agg (preC lan6),.agg (frC f),.agg (pkC p)] mt (.base (.int .i64 (nbdV r f p))) mt:=by
 refine AFn.eq Tryz.func66 rfl rfl (Nat.le_of_ble_eq_true rfl) ?_
 have hg:=grE_any f hf
 have hdec:=dec_any p hp.bB hp.s1 hp.s2 hp.d1 hp.d2
 have hln:=decR_len6 p
 have htg:=decR_tg (p:=p)
 have hsn:=sender_any r hr f hf p (decR p).1 hln
 have hcon:=fun h=>conE6 (decR p).1.tg h
 have hsol:=solE_any (decR p).1.tg
 have hsl:=solM_len (decR p).1.tg
 unfold nbdV
 unfold decV at hdec
 generalize decR p=D at *
 obtain ⟨n,e⟩:=D
 dsimp only at hdec hln htg hsn hcon hsol hsl ⊢
 generalize sndV r f p n=snd at *
 generalize grpE f.dst=gr at *
 obtain ⟨tin,htin⟩:∃ b,in6 n.tg=b:=⟨_,rfl⟩
 rw [htin] at hcon ⊢
 generalize solM n.tg=S at *
 obtain ⟨sol,hso⟩:∃ b,decide (f.dst=S)=b:=⟨_,rfl⟩
 rw [hso]
 obtain ⟨fd,fs,fv,ft,fx⟩:=f
 have p6:=hf.ok.d6
 have q6:=hf.ok.s6
 clear hf
 obtain ⟨r1,r2,r3,r4,r5,r6,r7,r8⟩:=r
 clear hr
 obtain ⟨k,fl,tg,has,ln⟩:=n
 obtain ⟨ps,pd,pp,pt,pbs⟩:=p
 clear hp
 dsimp only at p6 q6 hln hso hg htg hcon hsol hsn hdec ⊢
 obtain ⟨p0,p1,p2,p3,p4,p5,rfl⟩:=six_of p6
 obtain ⟨q0,q1,q2,q3,q4,q5,rfl⟩:=six_of q6
 obtain ⟨m0,m1,m2,m3,m4,m5,rfl⟩:=six_of hln
 obtain ⟨s0,s1,s2,s3,s4,s5,rfl⟩:=six_of hsl
 obtain ⟨t6,th,tl⟩:=tg
 obtain ⟨u6,uh,ul⟩:=ps
 obtain ⟨e6,eh,el⟩:=pd
 clear htin
 refine Wq<|qW 0 5 rfl<|qC rfl<|qC rfl<|qC rfl<|qC rfl<|qA rfl<|Nl<|Wq<|qW 9 17 rfl<|qG rfl ty83 rfl (Tl rfl)<|qY rfl (hdec) fok116 rfl<|qM rfl<|qX rfl<|qX rfl<|qB rfl ty87<|qS rfl ty87 (Sl rfl) rfl<|qA rfl<|Nl<|Wq<|Wb ?_
 by_cases he:e=0
 case' neg =>
  have k0:(e != 0)=true:=by simpa using he
  rw [k0]
  refine Wq<|qW 21 24 rfl<|qM rfl<|qN rfl<|qA rfl<|Nl<|Wt rfl ‹_›<|Wq<|qW 28 29 rfl<|qA rfl<|Nl<|Wz ⟨.inl rfl,_,mt,Rc (Rt rfl) (Rv),aM,?_⟩
  exact ⟨rfl,rfl⟩
 case' pos =>
  subst he
  refine Wq<|qW 21 24 rfl<|qM rfl<|qN rfl<|qA rfl<|Nl<|Wo rfl (rfl) ?_
  by_cases hk:k=135∨k=136
  case' neg =>
   have k1:(k != 135)=true:=by simp;omega
   have k2:(k != 136)=true:=by simp;omega
   have k3:(k == 135)=false:=by simp;omega
   have k4:(k == 136)=false:=by simp;omega
   rw [k3,k4]
   refine Wq<|qW 33 42 rfl<|qF rfl ty87 rfl<|qL rfl ty3 rfl<|qN rfl<|qM rfl<|gF rfl ‹_› ty87 rfl<|gL rfl ‹_› ty3 rfl<|gN rfl ‹_›<|qT rfl ‹_› rfl<|qA rfl<|Nl<|Wt rfl ‹_›<|Wq<|qW 46 47 rfl<|qA rfl<|Nl<|Wz ⟨.inl rfl,_,mt,Rc (Rt rfl) (Rv),aM,?_⟩
   exact ⟨rfl,rfl⟩
  case' pos =>
   obtain ⟨v1,v2,v3⟩:=htg rfl hk
   have hc:=hcon v1 v2 v3
   clear htg hcon
   rcases hk with rfl|rfl
   all_goals
    repeat (refine Wq ?_)
    refine qW 33 42 rfl<|qF rfl ty87 rfl<|qL rfl ty3 rfl<|qN rfl<|qM rfl ?_
    first
     | (refine RW.sd rfl rfl rfl ?_ rfl ?_;(· (first|rfl|assumption)))
     | (refine RW.gd rfl rfl rfl ?_ rfl (LO.fieldAddr rfl rfl ty87 rfl (by decide)) ?_;(· (first|rfl|assumption)))
    first
     | (refine RW.sd rfl rfl rfl ?_ rfl ?_;(· (first|rfl|assumption)))
     | (refine RW.gd rfl rfl rfl ?_ rfl (LO.load rfl rfl rfl rfl ty3 rfl) ?_;(· (first|rfl|assumption)))
    first
     | (refine RW.sd rfl rfl rfl ?_ rfl ?_;(· (first|rfl|assumption)))
     | (refine RW.gd rfl rfl rfl ?_ rfl (LO.neq rfl rfl rfl) ?_;(· (first|rfl|assumption)))
    first
     | (refine RW.opd rfl rfl (LO.pick_t rfl rfl ?_ rfl) ?_;(· (first|rfl|assumption)))
     | (refine RW.opd rfl rfl (LO.pick_f rfl rfl ?_ rfl) ?_;(· (first|rfl|assumption)))
    refine qA rfl<|Nl<|Wo rfl rfl ?_
    cases tin
    case' false =>
     repeat (refine Wq ?_)
     refine qW 51 57 rfl<|qG rfl ty56 rfl (Tl rfl)<|qF rfl ty87 rfl<|qG rfl ty54 rfl (Tl rfl)<|qY rfl (hc) fok113 rfl<|qO rfl<|qA rfl<|Nl<|Wt rfl rfl ?_
     repeat (refine Wq ?_)
     refine qW 61 62 rfl<|qA rfl<|Nl<|Wz ⟨.inl rfl,_,mt,Rc (Rt rfl) (Rv),aM,?_⟩
     exact ⟨rfl,rfl⟩
    case' true =>
     repeat (refine Wq ?_)
     refine qW 51 57 rfl<|qG rfl ty56 rfl (Tl rfl)<|qF rfl ty87 rfl<|qG rfl ty54 rfl (Tl rfl)<|qY rfl (hc) fok113 rfl<|qO rfl<|qA rfl<|Nl<|Wo rfl rfl ?_
     cases snd
     case' false =>
      repeat (refine Wq ?_)
      refine qW 66 73 rfl<|qG rfl ty39 rfl (Tl rfl)<|qG rfl ty26 rfl (Tl rfl)<|qG rfl ty83 rfl (Tl rfl)<|qG rfl ty87 rfl (Tl rfl)<|qY rfl (hsn) fok117 rfl<|qO rfl<|qA rfl<|Nl<|Wt rfl rfl ?_
      repeat (refine Wq ?_)
      refine qW 77 78 rfl<|qA rfl<|Nl<|Wz ⟨.inl rfl,_,mt,Rc (Rt rfl) (Rv),aM,?_⟩
      exact ⟨rfl,rfl⟩
     case' true =>
      repeat (refine Wq ?_)
      refine qW 66 73 rfl<|qG rfl ty39 rfl (Tl rfl)<|qG rfl ty26 rfl (Tl rfl)<|qG rfl ty83 rfl (Tl rfl)<|qG rfl ty87 rfl (Tl rfl)<|qY rfl (hsn) fok117 rfl<|qO rfl<|qA rfl<|Nl<|Wo rfl rfl ?_
   ·
    cases gr
    ·
     refine Wq<|Wd 82 98 (by decide) rfl mixed rfl<|qG rfl ty26 rfl (Tl rfl)<|qY rfl (hg) fok34 rfl<|qM rfl<|qD rfl rfl rfl<|qD rfl rfl rfl<|qD rfl rfl rfl<|qD rfl rfl rfl<|Ud rfl rfl rfl rfl<|Ud rfl rfl rfl rfl<|Ud rfl rfl rfl rfl<|Ud rfl rfl rfl rfl<|Ud rfl rfl rfl rfl<|Ud rfl rfl rfl rfl<|qD rfl rfl rfl<|qP rfl rfl rfl<|qA rfl<|Nl ⟨by kernel_rfl,(Wo rfl rfl<|Wu<|Wq<|qW 107 108 rfl<|qA rfl<|Nl<|Wz ⟨.inl rfl,_,mt,Rc (Rt rfl) (Rv),aM,?_⟩)⟩
     exact ⟨rfl,rfl⟩
    ·
     cases sol
     ·
      refine Wq<|Wd 82 98 (by decide) rfl mixed rfl<|qG rfl ty26 rfl (Tl rfl)<|qY rfl (hg) fok34 rfl<|qM rfl<|gF rfl rfl ty87 rfl<|gL rfl rfl ty3 rfl<|gN rfl rfl<|gM rfl rfl<|gF rfl rfl ty26 rfl<|gG rfl rfl ty23 rfl (Tl rfl)<|gF rfl rfl ty87 rfl<|gG rfl rfl ty54 rfl (Tl rfl)<|gY rfl rfl (hsol) fok118 rfl<|qU rfl rfl rfl (LO.neq_mac_b [p0,p1,p2,p3,p4,p5] [s0,s1,s2,s3,s4,s5] hso rfl rfl rfl rfl rfl)<|qU rfl rfl rfl (Pf0 rfl rfl rfl rfl)<|qT rfl rfl rfl<|qA rfl<|Nl ⟨by kernel_rfl,(Wt rfl rfl<|Wq<|qW 102 103 rfl<|qA rfl<|Nl<|Wz ⟨.inl rfl,_,mt,Rc (Rt rfl) (Rv),aM,?_⟩)⟩
      exact ⟨rfl,rfl⟩
     ·
      refine Wq<|Wd 82 98 (by decide) rfl mixed rfl<|qG rfl ty26 rfl (Tl rfl)<|qY rfl (hg) fok34 rfl<|qM rfl<|gF rfl rfl ty87 rfl<|gL rfl rfl ty3 rfl<|gN rfl rfl<|gM rfl rfl<|gF rfl rfl ty26 rfl<|gG rfl rfl ty23 rfl (Tl rfl)<|gF rfl rfl ty87 rfl<|gG rfl rfl ty54 rfl (Tl rfl)<|gY rfl rfl (hsol) fok118 rfl<|qU rfl rfl rfl (LO.neq_mac_b [p0,p1,p2,p3,p4,p5] [s0,s1,s2,s3,s4,s5] hso rfl rfl rfl rfl rfl)<|qU rfl rfl rfl (Pf0 rfl rfl rfl rfl)<|qT rfl rfl rfl<|qA rfl<|Nl ⟨by kernel_rfl,(Wo rfl rfl<|Wu<|Wq<|qW 107 108 rfl<|qA rfl<|Nl<|Wz ⟨.inl rfl,_,mt,Rc (Rt rfl) (Rv),aM,?_⟩)⟩
      exact ⟨rfl,rfl⟩
   ·
    cases gr
    ·
     refine Wq<|Wd 82 98 (by decide) rfl mixed rfl<|qG rfl ty26 rfl (Tl rfl)<|qY rfl (hg) fok34 rfl<|qM rfl<|qD rfl rfl rfl<|qD rfl rfl rfl<|qD rfl rfl rfl<|qD rfl rfl rfl<|Ud rfl rfl rfl rfl<|Ud rfl rfl rfl rfl<|Ud rfl rfl rfl rfl<|Ud rfl rfl rfl rfl<|Ud rfl rfl rfl rfl<|Ud rfl rfl rfl rfl<|qD rfl rfl rfl<|qP rfl rfl rfl<|qA rfl<|Nl ⟨by kernel_rfl,(Wo rfl rfl<|Wu<|Wq<|qW 107 108 rfl<|qA rfl<|Nl<|Wz ⟨.inl rfl,_,mt,Rc (Rt rfl) (Rv),aM,?_⟩)⟩
     exact ⟨rfl,rfl⟩
    ·
     refine Wq<|Wd 82 98 (by decide) rfl mixed rfl<|qG rfl ty26 rfl (Tl rfl)<|qY rfl (hg) fok34 rfl<|qM rfl<|gF rfl rfl ty87 rfl<|gL rfl rfl ty3 rfl<|gN rfl rfl<|gM rfl rfl<|qD rfl rfl rfl<|qD rfl rfl rfl<|qD rfl rfl rfl<|qD rfl rfl rfl<|qD rfl rfl rfl<|qD rfl rfl rfl<|qU rfl rfl rfl (Pt rfl rfl rfl rfl)<|qT rfl rfl rfl<|qA rfl<|Nl ⟨by kernel_rfl,(Wt rfl rfl<|Wq<|qW 102 103 rfl<|qA rfl<|Nl<|Wz ⟨.inl rfl,_,mt,Rc (Rt rfl) (Rv),aM,?_⟩)⟩
     exact ⟨rfl,rfl⟩
end Go.Proofs.YtlcndmciognneaaGreatDoor
