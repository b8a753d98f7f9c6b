/-
  GuardRouters: its law.
-/
import Derived.Test.YtlcndmciognneaaGreatDoorYz
import Derived.Test.YtlcndmciognneaaGreatDoorMab
namespace Go.Proofs.YtlcndmciognneaaGreatDoor
open Go.RowKit
def rtK (w:Int):Int:=if w=0 then 133 else if w=1 then 134 else 137
theorem rtK_in (w:Int):rtK w=133∨rtK w=134∨rtK w=137:=by
 unfold rtK
 split
 ·exact .inl rfl
 ·split
  ·exact .inr (.inl rfl)
  ·exact .inr (.inr rfl)
def toAt (a b c:List Int) (i:Nat):List Int:=if i=0 then a else if i=1 then b else c
def grp1:List Int:=[51,51,0,0,0,1]
theorem to_tk {a b c:List Int} (ha:a.length=6) (hb:b.length=6) (hc:c.length=6) {i:Nat} (hi:i < 3):Tk (bytesC a++bytesC b++bytesC c) (i * 6) 6 (bytesC (toAt a b c i)):=by
 match i,hi with
 | 0,_=>exact tk3_0 ((bytesC_len a).trans ha)
 | 1,_=>exact tk3_1 ((bytesC_len a).trans ha) ((bytesC_len b).trans hb)
 | 2,_=>exact tk3_2 ((bytesC_len a).trans ha) ((bytesC_len b).trans hb) ((bytesC_len c).trans hc)
theorem valid_rt {K:Int} {a:Ad} {h:Bool} {m:List Int} (hK:K=133∨K=134∨K=137) (h6:a.v6=true) (hg:grpA a=false):validN ⟨K,0,if K=137 then a else zAd,h,if h=true then m else zMac⟩=true:=by
 unfold validN targB
 rcases hK with rfl|rfl|rfl<;>cases h<;>simp [h6,hg,eqA]
theorem good_rt {K:Int} {a:Ad} {h:Bool} {m:List Int} (ha:U64 a.hi∧U64 a.lo) (hm:m.length=6∧IsB m):GoodN ⟨K,0,if K=137 then a else zAd,h,if h=true then m else zMac⟩:=by
 refine ⟨?_,?_⟩
 ·dsimp only;split
  ·exact hm
  ·exact ⟨rfl,zMac_isB⟩
 ·dsimp only;split
  ·exact ha
  ·exact ⟨by unfold U64;decide,by unfold U64;decide⟩
set_option maxHeartbeats 8000000 in
theorem routers_law (l:List Int) (kind i:Int) (hl:l.length≤9223372036854775807):AFn Tryz.prog 12 0 [.isl (l.map fun z=>.base (.int .i64 z)) l.length,.base (.int .i64 kind),.base (.int .i64 i)] mt (.base (.bool true)) mt:=by
 refine AFn.eq Tryz.func12 rfl rfl (Nat.le_of_ble_eq_true rfl) ?_
 have hawk:=awake10_any
 obtain ⟨ld,d,j,f,hj,⟨hfine,hfy⟩,hset⟩:=setting10_any l hl
 have hlen:=hfine.len
 have hrok:=hfine.rok (gOf d) 2 3
 have hrn:((allP d).map (ruleOf (gOf d) 2 3)).length=(allP d).length:=List.length_map _
 have h3:=hfy.ok.d6
 have h4:=hfy.ok.s6
 clear hfy
 obtain ⟨fd,fs,fv,ft,fx⟩:=f
 dsimp only at h3 h4
 obtain ⟨d0,d1,d2,d3,d4,d5,rfl⟩:=six_of h3
 obtain ⟨s0,s1,s2,s3,s4,s5,rfl⟩:=six_of h4
 obtain ⟨ni,hni,hnib⟩:=mod_nat (i:=i) (n:=((allP d).map (ruleOf (gOf d) 2 3)).length) (by omega)
 have m1:=mod_any i (((allP d).map (ruleOf (gOf d) 2 3)).length:Int) (by omega) (by omega)
 rw [hni] at m1
 have m2:=mod_any kind 3 (by decide) (by decide)
 obtain ⟨w,hw,hwb⟩:=mod_nat (i:=kind) (n:=3) (by decide)
 rw [show kind % 3=(w:Int) from hw] at m2
 have tI:=rules_tk hnib
 have hi:ni < (allP d).length:=by omega
 rw [List.getElem_map] at tI
 have hokI:=hrok _ (List.mem_map.2 ⟨_,List.getElem_mem hi,rfl⟩)
 have hx6:=six_of_port (hfine.good ni hi) (by omega) (by omega)
 have hall:∀ r,r∈(allP d).map (ruleOf (gOf d) 2 3)→1≤r.macs.length∧∀ m,m∈r.macs→m.length=6∧IsB m∧resM m=false:=fun r hr=>by
  have h1:=hrok r hr
  obtain ⟨p,hp,rfl⟩:=List.mem_map.1 hr
  obtain ⟨q,hq,rfl⟩:=List.getElem_of_mem hp
  exact ⟨h1.nm.1,fun m hm=>⟨(h1.macs m hm).1,(h1.macs m hm).2,mac_res (hfine.good q hq) (by omega) (by omega) m hm⟩⟩
 have hl0:((((allP d).map (ruleOf (gOf d) 2 3)).length:Int) == 0)=false:=by simpa using (show (((allP d).map (ruleOf (gOf d) 2 3)).length:Int)≠0 by omega)
 have hrlt:1≤((allP d).map (ruleOf (gOf d) 2 3)).length∧((allP d).map (ruleOf (gOf d) 2 3)).length≤1000:=by omega
 generalize hPi:(allP d)[ni]=Pi at *
 clear hPi hrok
 generalize (allP d).map (ruleOf (gOf d) 2 3)=rs at *
 have hnmI:=hokI.nm
 have hmsI:=hokI.macs
 have hg:=hokI.g
 unfold ruleOf at tI hnmI hmsI hg hset
 dsimp only at hnmI hmsI
 generalize gOf d Pi.id=gi at *
 generalize gOf d (allP d)[j].id=gj at *
 generalize (allP d)[j]=Pj at *
 clear hokI hfine hlen hi hni hw
 obtain ⟨ii,isw,isp,ims,iv4,iv6⟩:=Pi
 dsimp only at *
 obtain ⟨mac,mr,rfl⟩:∃ m r,ims=m::r:=by
  match ims,hnmI with
  | m::r,_=>exact ⟨m,r,rfl⟩
 obtain ⟨r0,rest,rfl⟩:∃ m r,rs=m::r:=by
  match rs,hrlt.1 with
  | m::r,_=>exact ⟨m,r,rfl⟩
 obtain ⟨h0n,h0m⟩:=hall r0 (by simp)
 clear hall
 obtain ⟨ra,rb,rc,rm,r4,r6,rr,rbu⟩:=r0
 dsimp only at h0n h0m
 obtain ⟨mac0,mr0,rfl⟩:∃ m r,rm=m::r:=by
  match rm,h0n with
  | m::r,_=>exact ⟨m,r,rfl⟩
 obtain ⟨z6,zB,zR⟩:=h0m mac0 (by simp)
 have tZ:=macs0 (fun x hx=>(h0m x hx).1)
 have h60:∀ x,x∈mac::mr→x.length=6:=fun x hx=>(hmsI x hx).1
 have tM:=macs0 h60
 have hm6:=h60 mac (by simp)
 have hmB:=(hmsI mac (by simp)).2
 clear hmsI hnmI h0n h0m
 have hn0:(((mac::mr).length:Int) == 0)=false:=by simpa using (show ((mr.length + 1:Nat):Int)≠0 by omega)
 rcases hx6 with hx6|⟨hx6,x1,x2,x3,x4,x5⟩
 ·rw [hx6] at tI
  refine Wq<|qW 0 1 rfl<|qA rfl<|Nl<|Wq<|qW 5 16 rfl<|qM rfl<|qY rfl (hset) fok31 rfl<|qM rfl<|qX rfl<|qX rfl<|qX rfl<|qB rfl ty39<|qB rfl ty26<|qA rfl<|qS rfl ty39 (Sl rfl) rfl<|qS rfl ty26 (Sl rfl) rfl<|Nl<|Wq<|Wq<|qW 20 23 rfl<|qM rfl<|qH rfl ty30<|qE rfl<|Nl<|Wo rfl rfl<|Wu<|Wq<|qW 32 41 rfl<|qM rfl<|qM rfl<|qM rfl<|qH rfl ty30<|qY rfl (m1) fok17 rfl<|qJ rfl rfl ty30 ty39 (by omega)<|Od rfl rfl (Lg rfl rfl ty39 rfl tI)<|qB rfl ty39<|qS rfl ty39 (Sl rfl) rfl<|Nl<|Wq<|Wq<|qW 45 55 rfl<|qF rfl ty39 rfl<|qL rfl ty37 rfl<|qH rfl ty37<|qE rfl<|qM rfl<|qD rfl rfl rfl<|qD rfl rfl rfl<|qD rfl rfl rfl<|qD rfl rfl rfl<|qT rfl rfl rfl<|Nl<|Wt rfl rfl<|Wq<|qW 59 61 rfl<|qY rfl (hawk) fok30 rfl<|qA rfl<|Nl<|Wz ⟨.inl rfl,_,mt,Rc (Rt0 rfl) (Rv),aM,?_⟩
  exact ⟨rfl,rfl⟩
 rw [hx6] at tI
 obtain ⟨xv,xh,xl⟩:=iv6
 dsimp only at *
 subst x1
 have hK:rtK (w:Int)=133∨rtK (w:Int)=134∨rtK (w:Int)=137:=rtK_in _
 have hKat:([.base (.int .i64 133),.base (.int .i64 134),.base (.int .i64 137)]:List AV)[0 + w * 1]?=some (.base (.int .i64 (rtK (w:Int)))):=by
  match w,hwb with
  | 0,_=>rfl
  | 1,_=>rfl
  | 2,_=>rfl
 generalize rtK (w:Int)=K at *
 obtain ⟨hs,hhs⟩:∃ hs,hs=(bitV .and .i64 kind 4 == 0):=⟨_,rfl⟩
 have hgn:=good_rt (K:=K) (a:=⟨true,xh,xl⟩) (h:=hs) (m:=mac) x2 ⟨hm6,hmB⟩
 have hvn:=valid_rt (K:=K) (h:=hs) (m:=mac) hK (a:=⟨true,xh,xl⟩) rfl x3
 obtain ⟨LN,hLN⟩:∃ LN,LN=(if hs=true then mac else zMac):=⟨_,rfl⟩
 obtain ⟨TG,hTG⟩:∃ TG,TG=(if K=137 then (⟨true,xh,xl⟩:Ad) else zAd):=⟨_,rfl⟩
 rw [← hLN,← hTG] at hgn hvn
 have hl6:=hgn.1.1
 have hlB:=hgn.1.2
 dsimp only at hl6 hlB
 have henc:=encX_any ⟨K,0,TG,hs,LN⟩ ⟨true,xh,xl⟩ ⟨true,xh,xl⟩ hl6 hlB hgn.2.1 hgn.2.2 x2.1 x2.2 x2.1 x2.2
 unfold encV at henc
 rw [show okN ⟨K,0,TG,hs,LN⟩ ⟨true,xh,xl⟩ ⟨true,xh,xl⟩=true from by unfold okN;rw [hvn];rfl,if_pos rfl,if_pos rfl] at henc
 have hvp:=vpk_enc (s:=⟨true,xh,xl⟩) (d:=⟨true,xh,xl⟩) hgn rfl rfl
 have hren:=renc_any (encN ⟨K,0,TG,hs,LN⟩ ⟨true,xh,xl⟩ ⟨true,xh,xl⟩) x2.1 x2.2 x2.1 x2.2 (enc_isB hgn _ _)
 unfold ecV encL2 encE at hren
 rw [hvp,if_pos rfl,if_pos rfl] at hren
 have hbl:=encB_len (s:=⟨true,xh,xl⟩) (d:=⟨true,xh,xl⟩) hgn rfl rfl
 have hbB:=encB_isB (s:=⟨true,xh,xl⟩) (d:=⟨true,xh,xl⟩) hgn rfl
 have hodd:oddS ⟨K,0,TG,hs,LN⟩ ⟨true,xh,xl⟩=false:=by
  unfold oddS
  rcases hK with rfl|rfl|rfl<;>rfl
 have hck:∀ to:List Int,to.length=6→IsB to→resM to=false→AFn Tryz.prog 26 0 [.agg (ruleC ⟨ii,gi,isw,mac::mr,ad1 iv4,[⟨true,xh,xl⟩],2,3⟩),.agg (preC lan4),.agg (preC lan6),.agg (frC ⟨to,mac,0,34525,encB (encN ⟨K,0,TG,hs,LN⟩ ⟨true,xh,xl⟩ ⟨true,xh,xl⟩)⟩)] mt (.base (.int .i64 9)) mt:=fun to t6 tB tR=>by
  have hchq:=chq_nb (r:=⟨ii,gi,isw,mac::mr,ad1 iv4,ad1 ⟨true,xh,xl⟩,2,3⟩) (dst:=to) (src:=mac) (s:=⟨true,xh,xl⟩) (d:=⟨true,xh,xl⟩) hvn hgn rfl rfl x2 x2 hodd (by simp) tR
  have hfx:FrX ⟨to,mac,0,34525,encB (encN ⟨K,0,TG,hs,LN⟩ ⟨true,xh,xl⟩ ⟨true,xh,xl⟩)⟩:=⟨⟨t6,hm6,hbB,by dsimp only;omega⟩,tB,hmB⟩
  have hc:=fchE_any _ hg _ hfx
  rw [hchq] at hc
  rw [hx6] at hc
  have:nbF false (K == 135) (K == 136) (in6 TG) (sndV ⟨ii,gi,isw,mac::mr,[⟨true,xh,xl⟩],[⟨true,xh,xl⟩],2,3⟩ ⟨to,mac,0,34525,encB (encN ⟨K,0,TG,hs,LN⟩ ⟨true,xh,xl⟩ ⟨true,xh,xl⟩)⟩ (encN ⟨K,0,TG,hs,LN⟩ ⟨true,xh,xl⟩ ⟨true,xh,xl⟩) ⟨K,0,TG,hs,LN⟩) (grpE to) (decide (to=solM TG))=9:=by
   unfold nbF
   rcases hK with rfl|rfl|rfl<;>rfl
  rw [show ∀ q,nbF false (K == 135) (K == 136) (in6 TG) q (grpE to) (decide (to=solM TG))=9 from fun q=>by
   unfold nbF
   rcases hK with rfl|rfl|rfl<;>rfl] at hc
  exact hc
 clear hbB hbl hvp hg hodd hgn hvn x2 x3 x4 x5 hx6
 generalize encB (encN ⟨K,0,TG,hs,LN⟩ ⟨true,xh,xl⟩ ⟨true,xh,xl⟩)=B at *
 generalize encN ⟨K,0,TG,hs,LN⟩ ⟨true,xh,xl⟩ ⟨true,xh,xl⟩=PK at *
 have hto:∀ q:Nat,q < 3→(toAt mac0 grp1 bcM q).length=6∧IsB (toAt mac0 grp1 bcM q)∧resM (toAt mac0 grp1 bcM q)=false:=fun q hq=>by
  match q,hq with
  | 0,_=>exact ⟨z6,zB,zR⟩
  | 1,_=>exact ⟨rfl,fun x hx=>by simp [toAt,grp1] at hx;omega,show resM grp1=false by decide⟩
  | 2,_=>exact ⟨rfl,fun x hx=>by simp [toAt,bcM] at hx;omega,show resM bcM=false by decide⟩
 have htt:=fun q (hq:q < 3)=>to_tk (a:=mac0) (b:=grp1) (c:=bcM) z6 rfl rfl hq
 obtain ⟨a0,a1,a2,a3,a4,a5,rfl⟩:=six_of z6
 obtain ⟨b0,b1,b2,b3,b4,b5,rfl⟩:=six_of hm6
 obtain ⟨l0,l1,l2,l3,l4,l5,rfl⟩:=six_of hl6
 refine Wq<|qW 0 1 rfl<|qA rfl<|Nl<|Wq<|qW 5 16 rfl<|qM rfl<|qY rfl (hset) fok31 rfl<|qM rfl<|qX rfl<|qX rfl<|qX rfl<|qB rfl ty39<|qB rfl ty26<|qA rfl<|qS rfl ty39 (Sl rfl) rfl<|qS rfl ty26 (Sl rfl) rfl<|Nl<|Wq<|Wq<|qW 20 23 rfl<|qM rfl<|qH rfl ty30<|qE rfl<|Nl<|Wo rfl rfl<|Wu<|Wq<|qW 32 41 rfl<|qM rfl<|qM rfl<|qM rfl<|qH rfl ty30<|qY rfl (m1) fok17 rfl<|qJ rfl rfl ty30 ty39 (by omega)<|Od rfl rfl (Lg rfl rfl ty39 rfl tI)<|qB rfl ty39<|qS rfl ty39 (Sl rfl) rfl<|Nl<|Wq<|Wq<|qW 45 55 rfl<|qF rfl ty39 rfl<|qL rfl ty37 rfl<|qH rfl ty37<|qE rfl<|qM rfl<|gF rfl rfl ty39 rfl<|gL rfl rfl ty36 rfl<|gH rfl rfl ty36<|gE rfl rfl<|qP rfl rfl rfl<|Nl<|Wo rfl rfl<|Wu<|Wq<|qW 65 76 rfl<|Od rfl rfl (LO.buildSlice rfl ty27 ty3 (by decide) (by decide) (.cons rfl rfl rfl rfl (Sl rfl) (.cons rfl rfl rfl rfl (Sl rfl) (.cons rfl rfl rfl rfl (Sl rfl) .nil))))<|qM rfl<|qY rfl (m2) fok17 rfl<|Od rfl rfl (Ia rfl rfl rfl rfl ty27 ty3 (by omega))<|Od rfl rfl (Ld rfl rfl rfl hKat ty3 rfl)<|qM rfl<|Od rfl rfl (LO.and rfl rfl rfl)<|qE rfl<|Od rfl rfl (Bs rfl ty87 (.cons rfl rfl rfl rfl (Sl rfl) (.cons rfl rfl rfl rfl (Sl rfl) .nil)))<|qB rfl ty87<|qS rfl ty87 (Sl rfl) rfl<|Nl ?_
 rw [← hhs]
 refine Wq<|Wq<|qW 80 83 rfl<|qF rfl ty87 rfl<|qL rfl ty3 rfl<|qE rfl<|Nl<|W.joinK (α:=Ad) 2 (fun x=>[(10,.own 0 0),(11,.own 1 0)]) (fun x=>up (up mt 0 (some (ruleC ⟨ii,gi,isw,[b0,b1,b2,b3,b4,b5]::mr,ad1 iv4,[⟨true,xh,xl⟩],2,3⟩))) 1 (some (nbC ⟨K,0,x,hs,zMac⟩))) (fun x=>x=TG) (.cons (t:=7) rfl (by exact .inl rfl) .nil) ?_ ?_
 rotate_left
 rintro T hIF
 try (dsimp only at hIF)
 try dsimp only [joinT,baseT,List.cons_append,List.nil_append]
 rotate_right
 ·
  by_cases hk7:K=137
  ·have k7:(K == 137)=true:=by simpa using hk7
   refine Wt rfl ‹_›<|qW 87 93 rfl<|qF rfl ty39 rfl<|qL rfl ty37 rfl<|qJ rfl rfl ty37 ty54 (by simp;done)<|Od rfl rfl (Lg rfl rfl ty54 rfl (Tl rfl))<|qF rfl ty87 rfl<|qS rfl ty54 (Sl rfl) rfl<|Nl ?_
   intro yJ KJ hJ
   refine W.renameJ [(0,39),(1,74)] 2 (by decide) ?_ ?_ (hJ ((⟨true,xh,xl⟩:Ad)) (show ((⟨true,xh,xl⟩:Ad))=TG from by rw [hTG,if_pos hk7]))
   ·exact lC (lI rfl) (lC (lI rfl) (lC (lR rfl) lN))
   ·exact aU (kR rfl) (aU (kR rfl) aM)
  ·have k7:(K == 137)=false:=by simpa using hk7
   refine Wo rfl ‹_›<|Wu ?_
   intro yJ KJ hJ
   refine W.renameJ [(0,39),(1,74)] 2 (by decide) ?_ ?_ (hJ zAd (show zAd=TG from by rw [hTG,if_neg hk7]))
   ·exact lC (lI rfl) (lC (lI rfl) (lC (lR rfl) lN))
   ·exact aU (kR rfl) (aU (kR rfl) aM)
 have hT1:=hIF
 clear hIF hTG
 subst hT1
 refine Wq<|Wq<|qW 97 99 rfl<|qF rfl ty87 rfl<|qL rfl ty4 rfl<|Nl<|W.joinK (α:=List Int) 2 (fun x=>[(10,.own 0 0),(11,.own 1 0)]) (fun x=>up (up mt 0 (some (ruleC ⟨ii,gi,isw,[b0,b1,b2,b3,b4,b5]::mr,ad1 iv4,[⟨true,xh,xl⟩],2,3⟩))) 1 (some (nbC ⟨K,0,T,hs,x⟩))) (fun x=>x=[l0,l1,l2,l3,l4,l5]) (.cons (t:=7) rfl (by exact .inl rfl) .nil) ?_ ?_
 rotate_left
 rintro L hIG
 try (dsimp only at hIG)
 try dsimp only [joinT,baseT,List.cons_append,List.nil_append]
 rotate_right
 ·
  cases hs
  ·
   refine Wo rfl rfl<|Wu ?_
   intro yJ KJ hJ
   refine W.renameJ [(0,0),(1,1)] 2 (by decide) ?_ ?_ (hJ zMac (show zMac=[l0,l1,l2,l3,l4,l5] from hLN.symm))
   ·exact lC (lI rfl) (lC (lI rfl) (lC (lR rfl) lN))
   ·exact aU (kR rfl) (aU (kR rfl) aM)
  ·
   refine Wt rfl rfl<|qW 103 109 rfl<|qF rfl ty39 rfl<|qL rfl ty36 rfl<|qJ rfl rfl ty36 ty23 (by simp;done)<|Od rfl rfl (Lg rfl rfl ty23 rfl tM)<|qF rfl ty87 rfl<|qS rfl ty23 (Sl rfl) rfl<|Nl ?_
   intro yJ KJ hJ
   refine W.renameJ [(0,0),(1,1)] 2 (by decide) ?_ ?_ (hJ [b0,b1,b2,b3,b4,b5] (show [b0,b1,b2,b3,b4,b5]=[l0,l1,l2,l3,l4,l5] from hLN.symm))
   ·exact lC (lI rfl) (lC (lI rfl) (lC (lR rfl) lN))
   ·exact aU (kR rfl) (aU (kR rfl) aM)
 have hL1:=hIG
 clear hIG hLN
 subst hL1
 refine Wq<|Wd 113 129 (by decide) rfl mixed rfl<|qG rfl ty87 rfl (Tl rfl)<|qF rfl ty39 rfl<|qL rfl ty37 rfl<|qJ rfl rfl ty37 ty54 (by simp;done)<|Od rfl rfl (Lg rfl rfl ty54 rfl (Tl rfl))<|qF rfl ty39 rfl<|qL rfl ty37 rfl<|qJ rfl rfl ty37 ty54 (by simp;done)<|Od rfl rfl (Lg rfl rfl ty54 rfl (Tl rfl))<|qY rfl (henc) fok42 rfl<|qM rfl<|qX rfl<|qX rfl<|qB rfl ty83<|qS rfl ty83 (Sl rfl) rfl<|qA rfl<|Nl ⟨by kernel_rfl,(Wq<|qW 133 140 rfl<|qG rfl ty83 rfl (Tl rfl)<|qY rfl (hren) fok43 rfl<|qM rfl<|qX rfl<|qX rfl<|qA rfl<|qA rfl<|Nl<|Wq<|Wq<|Wd 144 155 (by decide) rfl mixed rfl<|qM rfl<|qJ rfl rfl ty30 ty39 (by simp;done)<|qI rfl ty39 rfl<|Od rfl rfl (Li rfl rfl rfl ty36 rfl)<|qJ rfl rfl ty36 ty23 (by simp;done)<|Od rfl rfl (Lg rfl rfl ty23 rfl tZ)<|Od rfl rfl (LO.build_ar rfl ty23 ty5 (.cons rfl rfl rfl rfl (Sl rfl) (.cons rfl rfl rfl rfl (Sl rfl) (.cons rfl rfl rfl rfl (Sl rfl) (.cons rfl rfl rfl rfl (Sl rfl) (.cons rfl rfl rfl rfl (Sl rfl) (.cons rfl rfl rfl rfl (Sl rfl) .nil)))))))<|qY rfl (bcX_any) fok39 rfl<|Od rfl rfl (LO.buildSlice rfl ty36 ty23 (by decide) (by decide) (.cons rfl rfl rfl rfl (Sl rfl) (.cons rfl rfl rfl rfl (Sl rfl) (.cons rfl rfl rfl rfl (Sl rfl) .nil))))<|Od rfl rfl (LO.len rfl rfl ty36)<|qM rfl<|Nl ⟨by kernel_rfl,(Wy (t:=95) rfl rfl (Tl rfl) rfl<|Wb<|W.loop_keep (α:=Nat) (fun x=>3 - x) 1 (fun x=>[(10,.own 0 0),(97,.base (.int .i64 (x:Int)))]) (fun x=>up mt 0 (some (ruleC ⟨ii,gi,isw,[b0,b1,b2,b3,b4,b5]::mr,ad1 iv4,[⟨true,xh,xl⟩],2,3⟩))) (fun x=>x≤3) 0 [(0,0)] (.cons (t:=13) rfl (by exact .inl rfl) (.cons (t:=14) rfl (by exact .inl rfl) (.cons (t:=15) rfl (by exact .inl rfl) (.cons (t:=95) rfl (by exact .inl rfl) (.cons (t:=96) rfl (by exact .inl rfl) .nil))))) (show 0≤3 from Nat.zero_le _) (by decide) ?_ ?_ ?_)⟩)⟩
 ·exact lC (lI rfl) (lC (lR rfl) lN)
 ·exact aU (kR rfl) aM
 rintro q hIA ihA
 try (dsimp only at hIA)
 try dsimp only [baseT,List.cons_append,List.nil_append]
 by_cases hc:q < 3
 ·have g1:decide ((q:Int) < 3)=true:=decide_eq_true (by omega)
  obtain ⟨u1,u2,u3⟩:=hto q hc
  have htt1:=htt q hc
  have hck1:=hck _ u1 u2 u3
  clear u2 u3
  generalize toAt [a0,a1,a2,a3,a4,a5] grp1 bcM q=to at *
  obtain ⟨t0,t1,t2,t3,t4,t5,rfl⟩:=six_of u1
  refine Wq<|qW 159 160 rfl<|qK rfl<|Nl<|Wq<|Wt rfl ‹_›<|Wu<|Wq<|Wb<|Wq<|qW 164 168 rfl<|qJ rfl rfl ty36 ty23 (by omega)<|Od rfl rfl (Lg rfl rfl ty23 rfl htt1)<|qB rfl ty23<|qS rfl ty23 (Sl rfl) rfl<|Nl<|Wq<|Wd 172 192 (by decide) rfl mixed rfl<|qM rfl<|qN rfl<|qM rfl<|gM rfl rfl<|gN rfl rfl<|qP rfl rfl rfl<|qM rfl<|gG rfl rfl ty39 rfl (Tl rfl)<|gY rfl rfl (lan4_any) fok19 rfl<|gY rfl rfl (lan6_any) fok20 rfl<|gG rfl rfl ty23 rfl (Tl rfl)<|gF rfl rfl ty39 rfl<|gL rfl rfl ty36 rfl<|qU rfl rfl rfl (Ii rfl rfl rfl rfl rfl ty36 ty23 (by simp;done))<|qU rfl rfl rfl (Lg rfl rfl ty23 rfl tM)<|gM rfl rfl<|qU rfl rfl rfl (Bs rfl ty26 (.cons rfl rfl rfl rfl (Sl rfl) (.cons rfl rfl rfl rfl (Sl rfl) (.cons rfl rfl rfl rfl (Sl rfl) (.cons rfl rfl rfl rfl (Sl rfl) .nil)))))<|gY rfl rfl (hck1) fok26 rfl<|gN rfl rfl<|qP rfl rfl rfl<|Nl ⟨by kernel_rfl,(Wo rfl rfl<|Wu<|qW 201 203 rfl<|qZ rfl (iW _ (by omega))<|qM rfl<|Nl<|WL.renameL [(0,0)] 1 (by decide) ?_ ?_ (ihA (q + 1) (show 3 - (q + 1) < 3 - q from by omega) (show (q + 1)≤3 from by omega)))⟩
  ·exact lC (lI rfl) (lC (lR rfl) (lC (lR rfl) (lC (lR rfl) (lC (lR rfl) (lC (lR rfl) (lC (lR rfl) lN))))))
  ·exact aU (kR rfl) aM
 ·have g1:decide ((q:Int) < 3)=false:=decide_eq_false (by omega)
  refine Wq<|qW 159 160 rfl<|qK rfl<|Nl<|Wq<|Wo rfl ‹_›<|Wx<|Wq<|qW 207 209 rfl<|qY rfl (hawk) fok30 rfl<|qA rfl<|Nl<|Wz ⟨.inl rfl,_,mt,Rc (Rt0 rfl) (Rv),aM,?_⟩
  exact ⟨rfl,rfl⟩
end Go.Proofs.YtlcndmciognneaaGreatDoor
