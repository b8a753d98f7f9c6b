/-
  GuardHonest: its law.
-/
import Derived.Test.YtlcndmciognneaaGreatDoorWi
import Derived.Test.YtlcndmciognneaaGreatDoorMab
namespace Go.Proofs.YtlcndmciognneaaGreatDoor
open Go.RowKit
theorem neqA_self (a:Ad):(!eqA a a)=false:=by unfold eqA;simp
theorem eqA_eq {a b:Ad} (h:eqA a b=true):a=b:=by
 unfold eqA at h
 simp only [Bool.and_eq_true,beq_iff_eq] at h
 obtain ⟨a1,a2,a3⟩:=a
 obtain ⟨b1,b2,b3⟩:=b
 simp_all
theorem ad1_has {x a:Ad} (h:hasA (ad1 x) a=true):ad1 x=[a]:=by
 have:=hasA_mem.1 h
 unfold ad1 at this ⊢
 split at this
 ·cases this
 ·rename_i hz
  rw [if_neg hz,List.mem_singleton.1 this]
theorem snd_pass {r:Rl} {f:Fr} {p:Pk} {n:Nb} {y:Ad} (hr:r.v6=ad1 y) (h:sndV r f p n=true):(n.has=true→n.ln=f.src)∧(r.v6=[p.s]∧(n.k=136→n.tg=p.s)∨(hasA r.v6 p.s=false∧n.k=135∧p.s=⟨true,0,0⟩∧r.v6=[n.tg])):=by
 unfold sndV sndF at h
 split at h
 ·cases h
 rename_i c1
 split at h
 ·cases h
 rename_i c2
 constructor
 ·intro hh
  rw [hh] at c1
  simpa using c1
 ·by_cases hs:hasA r.v6 p.s=true
  ·refine .inl ⟨by rw [hr] at hs ⊢;exact ad1_has hs,fun hk=>?_⟩
   have ho:hasA r.v6 n.tg=true:=by
    rw [hk] at h
    simpa using h
   have e1:r.v6=[p.s]:=by rw [hr] at hs ⊢;exact ad1_has hs
   have e2:r.v6=[n.tg]:=by rw [hr] at ho ⊢;exact ad1_has ho
   rw [e1] at e2
   exact (List.cons.inj e2).1.symm
  ·have hs':hasA r.v6 p.s=false:=by simpa using hs
   rw [hs'] at c2
   have hpb:(n.k == 135 && (eqA p.s ⟨true,0,0⟩ && hasA r.v6 n.tg))=true:=by
    cases hc:(n.k == 135 && (eqA p.s ⟨true,0,0⟩ && hasA r.v6 n.tg))
    ·rw [hc] at c2;exact absurd rfl c2
    ·rfl
   simp only [Bool.and_eq_true,beq_iff_eq] at hpb
   exact .inr ⟨hs',hpb.1,eqA_eq hpb.2.1,by have:=hpb.2.2;rw [hr] at this ⊢;exact ad1_has this⟩
set_option maxHeartbeats 16000000 in
theorem honest_law (l:List Int) (at_ by_:Int) (hl:l.length≤9223372036854775807):AFn Tryz.prog 8 0 [.isl (l.map fun z=>.base (.int .i64 z)) l.length,.base (.int .i64 at_),.base (.int .i64 by_)] mt (.base (.bool true)) mt:=by
 refine AFn.eq Tryz.func8 rfl rfl (Nat.le_of_ble_eq_true rfl) ?_
 have hawk:=awake10_any
 obtain ⟨ld,d,j,f,hj,⟨hfine,hfy⟩,hset⟩:=setting10_any l hl
 have hone:RlG (ruleOf (gOf d) 2 3 (allP d)[j]):=(hfine.rok (gOf d) 2 3 _ (List.mem_map.2 ⟨_,List.getElem_mem hj,rfl⟩)).g
 have hr4:(ruleOf (gOf d) 2 3 (allP d)[j]).v4=ad1 (allP d)[j].v4:=rfl
 have hr6:(ruleOf (gOf d) 2 3 (allP d)[j]).v6=ad1 (allP d)[j].v6:=rfl
 obtain ⟨L,⟨hLB,hLl⟩,hsp⟩:=spo_any f.data at_ by_ hfy.ok.bB (by have:=hfy.dl;omega)
 have hgx:=hfy.spoilt hLB hLl
 have hfx:=hfy.x
 have hall:∀ i:Nat,i < 2→FrX ([f,⟨f.dst,f.src,f.vl,f.ty,L⟩].getD i f):=fun i hi=>by
  match i,hi with
  | 0,_=>exact hfx
  | 1,_=>exact hgx
 have htk:∀ i:Nat,i < 2→Tk (frC f++frC ⟨f.dst,f.src,f.vl,f.ty,L⟩++[]) (i * 15) 15 (frC ([f,⟨f.dst,f.src,f.vl,f.ty,L⟩].getD i f)):=fun i hi=>by
  have e2:(frC f).length=15:=frC_len hfx.ok.d6 hfx.ok.s6
  have e3:(frC ⟨f.dst,f.src,f.vl,f.ty,L⟩).length=15:=frC_len hgx.ok.d6 hgx.ok.s6
  match i,hi with
  | 0,_=>exact tk3_0 e2
  | 1,_=>exact tk3_1 e2 e3
 clear hfine hfy hgx
 generalize ruleOf (gOf d) 2 3 (allP d)[j]=ro at *
 generalize (allP d).map (ruleOf (gOf d) 2 3)=rs at *
 obtain ⟨fd,fs,fv,ft,fx⟩:=f
 have h3:=hfx.ok.d6
 have h4:=hfx.ok.s6
 dsimp only at h3 h4 hsp
 obtain ⟨d0,d1,d2,d3,d4,d5,rfl⟩:=six_of h3
 obtain ⟨e0,e1,e2,e3,e4,e5,rfl⟩:=six_of h4
 clear hfx
 refine Wq<|qW 0 1 rfl<|qA rfl<|Nl<|Wq<|qW 5 16 rfl<|qM rfl<|qY rfl (hset) fok31 rfl<|qM rfl<|qX rfl<|qX rfl<|qX rfl<|qB rfl ty39<|qB rfl ty26<|qA rfl<|qS rfl ty39 (Sl rfl) rfl<|qS rfl ty26 (Sl rfl) rfl<|Nl<|Wq<|qW 20 23 rfl<|qG rfl ty26 rfl (Tl rfl)<|qB rfl ty26<|qS rfl ty26 (Sl rfl) rfl<|Nl<|Wq<|qW 27 34 rfl<|qF rfl ty26 rfl<|qL rfl ty24 rfl<|qM rfl<|qM rfl<|qY rfl (hsp) fok32 rfl<|qF rfl ty26 rfl<|qS rfl ty24 (Sl rfl) rfl<|Nl<|Wq<|Wq<|qW 38 43 rfl<|qG rfl ty26 rfl (Tl rfl)<|qG rfl ty26 rfl (Tl rfl)<|Od rfl rfl (LO.buildSlice rfl ty47 ty26 (by decide) (by decide) (.cons rfl rfl rfl rfl (Sl rfl) (.cons rfl rfl rfl rfl (Sl rfl) .nil)))<|Od rfl rfl (LO.len rfl rfl ty47)<|qM rfl<|Nl<|Wy (t:=36) rfl rfl (Tl rfl) rfl<|Wb<|W.loop_keep (α:=Nat) (fun x=>2 - x) 1 (fun x=>[(8,.own 0 0),(38,.base (.int .i64 (x:Int)))]) (fun x=>up mt 0 (some (ruleC ro))) (fun x=>x≤2) 0 [(0,11)] (.cons (t:=36) rfl (by exact .inl rfl) (.cons (t:=37) rfl (by exact .inl rfl) .nil)) (show 0≤2 from Nat.zero_le _) (by decide) ?_ ?_ ?_
 ·exact lC (lI rfl) (lC (lR rfl) lN)
 ·exact aU (kR rfl) aM
 rintro i hIA ihA
 try (dsimp only at hIA)
 try dsimp only [baseT,List.cons_append,List.nil_append]
 by_cases hc:i < 2
 ·have g1:decide ((i:Int) < 2)=true:=decide_eq_true (by omega)
  have hx:=hall i hc
  have hxt:=htk i hc
  clear hall htk
  dsimp only at hxt hx
  generalize ([(⟨[d0,d1,d2,d3,d4,d5],[e0,e1,e2,e3,e4,e5],fv,ft,fx⟩:Fr),⟨[d0,d1,d2,d3,d4,d5],[e0,e1,e2,e3,e4,e5],fv,ft,L⟩].getD i ⟨[d0,d1,d2,d3,d4,d5],[e0,e1,e2,e3,e4,e5],fv,ft,fx⟩)=x at *
  have c1:=fchE_any ro hone x hx
  have hpass:=@chq_pass ro x
  obtain ⟨xd,xs,xv,xt,xx⟩:=x
  have h5:=hx.ok.d6
  have h6:=hx.ok.s6
  have hbB:=hx.ok.bB
  have hbl:=hx.ok.bl
  dsimp only at h5 h6 hbB hbl
  obtain ⟨b0,b1,b2,b3,b4,b5,rfl⟩:=six_of h5
  obtain ⟨s0,s1,s2,s3,s4,s5,rfl⟩:=six_of h6
  clear hx
  by_cases hv:chqV ro ⟨[b0,b1,b2,b3,b4,b5],[s0,s1,s2,s3,s4,s5],xv,xt,xx⟩=0
  rotate_left
  ·generalize chqV ro ⟨[b0,b1,b2,b3,b4,b5],[s0,s1,s2,s3,s4,s5],xv,xt,xx⟩=v at *
   have k1:(v != 0)=true:=by simpa using hv
   refine Wq<|qW 47 48 rfl<|qK rfl<|Nl<|Wq<|Wt rfl ‹_›<|Wu<|Wq<|Wb<|Wq<|qW 52 56 rfl<|qJ rfl rfl ty47 ty26 (by omega)<|Od rfl rfl (Lg rfl rfl ty26 rfl hxt)<|qB rfl ty26<|qS rfl ty26 (Sl rfl) rfl<|Nl<|Wq<|Wq<|Wd 60 66 (by decide) rfl mixed rfl<|qG rfl ty39 rfl (Tl rfl)<|qY rfl (lan4_any) fok19 rfl<|qY rfl (lan6_any) fok20 rfl<|qG rfl ty26 rfl (Tl rfl)<|qY rfl (c1) fok26 rfl<|qN rfl<|Nl ⟨by kernel_rfl,(Wt rfl ‹_›<|Wx<|qW 303 305 rfl<|qZ rfl (iW _ (by omega))<|qM rfl<|Nl<|WL.renameL [(0,0)] 1 (by decide) ?_ ?_ (ihA (i + 1) (show 2 - (i + 1) < 2 - i from by omega) (show (i + 1)≤2 from by omega)))⟩
   ·exact lC (lI rfl) (lC (lR rfl) (lC (lR rfl) (lC (lR rfl) lN)))
   ·exact aU (kR rfl) aM
  have hp:=hpass hv
  rw [hv] at c1
  clear hpass hv
  obtain ⟨rp,ra,rw_,rm,r4,r6,rr,rb⟩:=ro
  dsimp only at hr4 hr6
  have hpo:[s0,s1,s2,s3,s4,s5]∈rm:=hp.own
  have hrm:=hone.macs
  have hrl:=hone.nm
  dsimp only at hrm hrl
  have hss:decide (([s0,s1,s2,s3,s4,s5]:List Int)=[s0,s1,s2,s3,s4,s5])=true:=decide_eq_true rfl
  refine Wq<|qW 47 48 rfl<|qK rfl<|Nl<|Wq<|Wt rfl ‹_›<|Wu<|Wq<|Wb<|Wq<|qW 52 56 rfl<|qJ rfl rfl ty47 ty26 (by omega)<|Od rfl rfl (Lg rfl rfl ty26 rfl hxt)<|qB rfl ty26<|qS rfl ty26 (Sl rfl) rfl<|Nl<|Wq<|Wq<|Wd 60 66 (by decide) rfl mixed rfl<|qG rfl ty39 rfl (Tl rfl)<|qY rfl (lan4_any) fok19 rfl<|qY rfl (lan6_any) fok20 rfl<|qG rfl ty26 rfl (Tl rfl)<|qY rfl (c1) fok26 rfl<|qN rfl<|Nl ⟨by kernel_rfl,(Wo rfl rfl<|Wu<|Wq<|qW 70 71 rfl<|qA rfl<|Nl<|Wq<|Wq<|qW 75 79 rfl<|qF rfl ty39 rfl<|qL rfl ty36 rfl<|qH rfl ty36<|qM rfl<|Nl<|Wb<|W.loop_keep (α:=Nat × Bool) (fun x=>rm.length - x.1) 2 (fun x=>[(8,.own 0 0),(12,.own 1 0),(13,.base (.bool x.2)),(51,.base (.int .i64 (x.1:Int)))]) (fun x=>up (up mt 0 (some (ruleC ⟨rp,ra,rw_,rm,r4,r6,rr,rb⟩))) 1 (some (frC ⟨[b0,b1,b2,b3,b4,b5],[s0,s1,s2,s3,s4,s5],xv,xt,xx⟩))) (fun x=>x.1≤rm.length∧x.2=decide ([s0,s1,s2,s3,s4,s5]∈rm.take x.1)) (0,false) [(0,0),(1,54)] (.cons (t:=36) rfl (by exact .inl rfl) (.cons (t:=37) rfl (by exact .inl rfl) (.cons (t:=38) rfl (by exact .inl rfl) (.cons (t:=49) rfl (by exact .inl rfl) (.cons (t:=50) rfl (by exact .inl rfl) .nil))))) (show 0≤rm.length∧false=decide ([s0,s1,s2,s3,s4,s5]∈rm.take 0) from ⟨Nat.zero_le _,by simp⟩) (by decide) ?_ ?_ ?_)⟩
  ·exact lC (lI rfl) (lC (lI rfl) (lC (lR rfl) (lC (lR rfl) lN)))
  ·exact aU (kR rfl) (aU (kR rfl) aM)
  rintro ⟨k,own⟩ hIB ihB
  try (dsimp only at hIB)
  try dsimp only [baseT,List.cons_append,List.nil_append]
  obtain ⟨hkl,how⟩:=hIB
  by_cases hc2:k < rm.length
  ·have g2:decide ((k:Int) < (rm.length:Int))=true:=decide_eq_true (by omega)
   have hmk:=hrm _ (List.getElem_mem hc2)
   have htm:=take_mem hc2 [s0,s1,s2,s3,s4,s5]
   refine Wq<|qW 83 84 rfl<|qK rfl<|Nl<|Wq<|Wt rfl ‹_›<|Wu<|Wq<|Wb<|Wq<|qW 88 92 rfl<|qJ rfl rfl ty36 ty23 (by omega)<|Od rfl rfl (Lg rfl rfl ty23 rfl (macs_tk hrm hc2))<|qB rfl ty23<|On rfl rfl (Sr rfl rfl rfl rfl rfl ty23 ((bytesC_len _).trans hmk) (by decide) (sp_all ((bytesC_len _).trans hmk)))<|Nl ?_
   generalize rm[k]=mk at *
   obtain ⟨y0,y1,y2,y3,y4,y5,rfl⟩:=six_of hmk
   by_cases ho:[s0,s1,s2,s3,s4,s5]∈rm.take k
   ·have q2:decide ([s0,s1,s2,s3,s4,s5]∈rm.take (k + 1))=true:=decide_eq_true (htm.2 (.inl ho))
    obtain rfl:own=true:=how.trans (decide_eq_true ho)
    refine qW 96 104 rfl<|qM rfl<|qM rfl<|qD rfl rfl rfl<|qD rfl rfl rfl<|qD rfl rfl rfl<|qD rfl rfl rfl<|qT rfl rfl rfl<|qA rfl<|Nl<|qW 108 110 rfl<|qZ rfl (iW _ (by omega))<|qM rfl<|Nl<|WL.renameL [(0,0),(1,1)] 2 (by decide) ?_ ?_ (ihB ((k + 1),true) (show rm.length - (k + 1) < rm.length - k from by omega) (show (k + 1)≤rm.length∧true=decide ([s0,s1,s2,s3,s4,s5]∈rm.take (k + 1)) from ⟨by omega,q2.symm⟩))
    ·exact lC (lI rfl) (lC (lI rfl) (lC (lR rfl) (lC (lR rfl) (lC (lR rfl) (lC (lR rfl) (lC (lR rfl) (lC (lR rfl) (lC (lR rfl) lN))))))))
    ·exact aU (kR rfl) (aU (kR rfl) aM)
   ·have q2:decide ([s0,s1,s2,s3,s4,s5]∈rm.take (k + 1))=decide (([y0,y1,y2,y3,y4,y5]:List Int)=[s0,s1,s2,s3,s4,s5]):=by
     by_cases he:([y0,y1,y2,y3,y4,y5]:List Int)=[s0,s1,s2,s3,s4,s5]
     ·rw [decide_eq_true he,decide_eq_true (htm.2 (.inr he))]
     ·rw [decide_eq_false he,decide_eq_false fun h=>(htm.1 h).elim ho he]
    obtain rfl:own=false:=how.trans (decide_eq_false ho)
    refine qW 96 104 rfl<|qM rfl<|qM rfl<|gG rfl rfl ty23 rfl (Tl rfl)<|gF rfl rfl ty26 rfl<|gG rfl rfl ty23 rfl (Tl rfl)<|qU rfl rfl rfl (LO.eql_mac [y0,y1,y2,y3,y4,y5] [s0,s1,s2,s3,s4,s5] rfl rfl rfl rfl rfl)<|qP rfl rfl rfl<|qA rfl<|Nl<|qW 108 110 rfl<|qZ rfl (iW _ (by omega))<|qM rfl<|Nl<|WL.renameL [(0,0),(1,1)] 2 (by decide) ?_ ?_ (ihB ((k + 1),(decide (([y0,y1,y2,y3,y4,y5]:List Int)=[s0,s1,s2,s3,s4,s5]))) (show rm.length - (k + 1) < rm.length - k from by omega) (show (k + 1)≤rm.length∧(decide (([y0,y1,y2,y3,y4,y5]:List Int)=[s0,s1,s2,s3,s4,s5]))=decide ([s0,s1,s2,s3,s4,s5]∈rm.take (k + 1)) from ⟨by omega,q2.symm⟩))
    ·exact lC (lI rfl) (lC (lI rfl) (lC (lR rfl) (lC (lR rfl) (lC (lR rfl) (lC (lR rfl) (lC (lR rfl) (lC (lR rfl) (lC (lR rfl) lN))))))))
    ·exact aU (kR rfl) (aU (kR rfl) aM)
  have g2:decide ((k:Int) < (rm.length:Int))=false:=decide_eq_false (by omega)
  obtain rfl:k=rm.length:=by omega
  refine Wq<|qW 83 84 rfl<|qK rfl<|Nl<|Wq<|Wo rfl ‹_›<|Wx ?_
  clear ihB
  obtain rfl:own=true:=how.trans (by rw [List.take_length];exact decide_eq_true hpo)
  have k1:(xv != 0)=false:=by have:=hp.tag;dsimp only at this;simpa using this
  have k2:decide ((1500:Int) < (xx.length:Int))=false:=by have:=hp.big;dsimp only at this;exact decide_eq_false (by omega)
  refine Wq<|Wq<|qW 114 127 rfl<|qM rfl<|qO rfl<|qM rfl<|gF rfl rfl ty26 rfl<|gL rfl rfl ty3 rfl<|gN rfl rfl<|qP rfl rfl rfl<|qM rfl<|gF rfl ‹_› ty26 rfl<|gL rfl ‹_› ty24 rfl<|gH rfl ‹_› ty24<|gGt rfl ‹_›<|qP rfl ‹_› rfl<|Nl<|Wo rfl ‹_›<|Wu ?_
  have hpd:=rdec_any xx hbB (by omega)
  have hcg:=dcP_g hbB
  unfold rdV at hpd
  rcases hp.kind with ⟨hty,hrv⟩|⟨hty,hds,hnv⟩|⟨hty,_,_⟩
  ·obtain ⟨a1,a2,a3,a4,a5⟩:=resol_pass hrv
   have hfit:=arp_fit a1
   have hde:=decA_any xx hbB
   dsimp only at a1 a2 a3 hfit hty
   unfold arpR at hde
   rw [a1,if_pos rfl] at hde
   rw [hr4] at a3
   have e4:=hr4.trans (ad1_has a3)
   have q1:=hfit.1
   have q2:=hfit.2.1
   have k3:(xt == 2054)=true:=by simpa using hty
   have k4:(xt != 34525)=true:=by rw [hty];decide
   clear hfit a1 a3 a4 a5 hrv hp hr4 hr6 hone
   generalize arpOf xx=aa at *
   generalize (if dcE xx=0 then dcP xx else zPk)=Q at *
   generalize dcE xx=ee at *
   obtain ⟨op,fm,fr,tm,tt⟩:=aa
   dsimp only at q1 q2 e4 a2
   subst e4
   subst a2
   obtain ⟨z0,z1,z2,z3,z4,z5,rfl⟩:=six_of q2
   refine Wq<|Wq<|qW 136 139 rfl<|qF rfl ty26 rfl<|qL rfl ty3 rfl<|qE rfl<|Nl<|Wt rfl ‹_›<|Wq<|qW 143 152 rfl<|qF rfl ty26 rfl<|qL rfl ty24 rfl<|qY rfl (hde) fok36 rfl<|qM rfl<|qX rfl<|qX rfl<|qB rfl ty78<|qS rfl ty78 (Sl rfl) rfl<|qA rfl<|Nl<|Wq<|Wd 156 180 (by decide) rfl mixed rfl<|qM rfl<|qN rfl<|qM rfl<|gF rfl rfl ty78 rfl<|gG rfl rfl ty23 rfl (Tl rfl)<|gF rfl rfl ty26 rfl<|gG rfl rfl ty23 rfl (Tl rfl)<|qU rfl rfl rfl (LO.neq_mac_b [s0,s1,s2,s3,s4,s5] [s0,s1,s2,s3,s4,s5] hss rfl rfl rfl rfl rfl)<|qP rfl rfl rfl<|qM rfl<|gF rfl rfl ty39 rfl<|gL rfl rfl ty37 rfl<|gH rfl rfl ty37<|gN rfl rfl<|qP rfl rfl rfl<|qM rfl<|gF rfl rfl ty78 rfl<|gG rfl rfl ty54 rfl (Tl rfl)<|gF rfl rfl ty39 rfl<|gL rfl rfl ty37 rfl<|qU rfl rfl rfl (Ii rfl rfl rfl rfl rfl ty37 ty54 (by simp;done))<|qU rfl rfl rfl (Lg rfl rfl ty54 rfl (Tl rfl))<|qU rfl rfl rfl (LO.neq_ad_b fr fr (neqA_self fr) rfl rfl rfl)<|qP rfl rfl rfl<|Nl ⟨by kernel_rfl,(Wo rfl rfl<|Wu<|Wq<|qW 189 198 rfl<|qF rfl ty26 rfl<|qL rfl ty24 rfl<|qY rfl (hpd) fok37 rfl<|qM rfl<|qX rfl<|qX rfl<|qB rfl ty83<|qS rfl ty83 (Sl rfl) rfl<|qA rfl<|Nl<|Wq<|Wq<|qW 202 209 rfl<|qF rfl ty26 rfl<|qL rfl ty3 rfl<|qN rfl<|qM rfl<|qD rfl ‹_› rfl<|qD rfl ‹_› rfl<|qT rfl ‹_› rfl<|Nl<|Wt rfl rfl<|Wx<|qW 303 305 rfl<|qZ rfl (iW _ (by omega))<|qM rfl<|Nl<|WL.renameL [(0,0)] 1 (by decide) ?_ ?_ (ihA (i + 1) (show 2 - (i + 1) < 2 - i from by omega) (show (i + 1)≤2 from by omega)))⟩
   ·exact lC (lI rfl) (lC (lR rfl) (lC (lR rfl) (lC (lR rfl) lN)))
   ·exact aU (kR rfl) aM
  ·dsimp only at hty hds hnv
   obtain ⟨a1,a2,a3,a4,a5⟩:=nbd_pass hnv
   have hd0:dcE xx=0:=by
    unfold dscF at hds
    simp only [Bool.and_eq_true,beq_iff_eq] at hds
    exact hds.1
   rw [hd0,if_pos rfl] at hpd
   have hnd:=decX_any (dcP xx) hcg.bB hcg.s1 hcg.s2 hcg.d1 hcg.d2
   unfold decV at hnd
   rw [a1] at hnd
   obtain ⟨f1,f2⟩:=snd_pass hr6 a4
   have hln:=decR_len6 (dcP xx)
   have k3:(xt == 2054)=false:=by rw [hty];decide
   have k4:(xt != 34525)=false:=by rw [hty];decide
   clear a1 a3 a4 a5 hnv hp hcg hr4 hone
   generalize (decR (dcP xx)).1=nn at *
   generalize dcP xx=P at *
   obtain ⟨ps,pd,pp,pt,pb⟩:=P
   obtain ⟨nk,nf,tg,nh,nl⟩:=nn
   dsimp only at a2 hln f1 f2
   refine Wq<|Wq<|qW 136 139 rfl<|qF rfl ty26 rfl<|qL rfl ty3 rfl<|qE rfl<|Nl<|Wo rfl ‹_›<|Wu ?_
   rcases f2 with ⟨e6,f2⟩|⟨hnq,hk5,hps,e6⟩
   ·subst e6
    rcases a2 with hk|hk
    ·have k5:(nk != 135)=false:=by rw [hk];decide
     have k6:(nk == 136)=false:=by rw [hk];decide
     cases nh
     ·obtain ⟨z0,z1,z2,z3,z4,z5,rfl⟩:=six_of hln
      refine Wq<|qW 189 198 rfl<|qF rfl ty26 rfl<|qL rfl ty24 rfl<|qY rfl (hpd) fok37 rfl<|qM rfl<|qX rfl<|qX rfl<|qB rfl ty83<|qS rfl ty83 (Sl rfl) rfl<|qA rfl<|Nl<|Wq<|Wq<|qW 202 209 rfl<|qF rfl ty26 rfl<|qL rfl ty3 rfl<|qN rfl<|qM rfl<|gM rfl ‹_›<|gN rfl ‹_›<|qP rfl ‹_› rfl<|Nl<|Wo rfl rfl<|Wu<|Wq<|qW 213 221 rfl<|qG rfl ty83 rfl (Tl rfl)<|qY rfl (hnd) fok38 rfl<|qM rfl<|qX rfl<|qX rfl<|qB rfl ty87<|qS rfl ty87 (Sl rfl) rfl<|qA rfl<|Nl<|Wq<|Wq<|qW 225 227 rfl<|qM rfl<|qN rfl<|Nl<|Wo rfl rfl<|Wu<|Wq<|Wd 231 294 (by decide) rfl mixed rfl<|qF rfl ty87 rfl<|qL rfl ty3 rfl<|qN rfl<|qM rfl<|qD rfl ‹_› rfl<|qD rfl ‹_› rfl<|qD rfl ‹_› rfl<|qP rfl ‹_› rfl<|qM rfl<|gF rfl rfl ty87 rfl<|gL rfl rfl ty4 rfl<|gM rfl rfl<|qD rfl rfl rfl<|qD rfl rfl rfl<|qD rfl rfl rfl<|qD rfl rfl rfl<|qD rfl rfl rfl<|qU rfl rfl rfl (Pf0 rfl rfl rfl rfl)<|qP rfl rfl rfl<|qM rfl<|gF rfl rfl ty39 rfl<|gL rfl rfl ty37 rfl<|gH rfl rfl ty37<|gN rfl rfl<|qP rfl rfl rfl<|qM rfl<|gF rfl rfl ty83 rfl<|gG rfl rfl ty54 rfl (Tl rfl)<|gF rfl rfl ty39 rfl<|gL rfl rfl ty37 rfl<|qU rfl rfl rfl (Ii rfl rfl rfl rfl rfl ty37 ty54 (by simp;done))<|qU rfl rfl rfl (Lg rfl rfl ty54 rfl (Tl rfl))<|qU rfl rfl rfl (LO.neq_ad_b ps ps (neqA_self ps) rfl rfl rfl)<|gM rfl rfl<|qD rfl rfl rfl<|qD rfl rfl rfl<|qD rfl rfl rfl<|qD rfl rfl rfl<|qD rfl rfl rfl<|Ud rfl rfl rfl rfl<|Ud rfl rfl rfl rfl<|Ud rfl rfl rfl rfl<|Ud rfl rfl rfl rfl<|Ud rfl rfl rfl rfl<|Ud rfl rfl rfl rfl<|Ud rfl rfl rfl rfl<|qD rfl rfl rfl<|qU rfl rfl rfl (Pf0 rfl rfl rfl rfl)<|qP rfl rfl rfl<|qM rfl<|gF rfl rfl ty87 rfl<|gL rfl rfl ty3 rfl<|gE rfl rfl<|gM rfl rfl<|qD rfl ‹_› rfl<|qD rfl ‹_› rfl<|qD rfl ‹_› rfl<|qD rfl ‹_› rfl<|qD rfl ‹_› rfl<|qD rfl ‹_› rfl<|qD rfl ‹_› rfl<|qU rfl rfl rfl (Pf0 rfl rfl ‹_› rfl)<|qP rfl rfl rfl<|Nl ⟨by kernel_rfl,(Wo rfl rfl<|Wu<|qW 303 305 rfl<|qZ rfl (iW _ (by omega))<|qM rfl<|Nl<|WL.renameL [(0,0)] 1 (by decide) ?_ ?_ (ihA (i + 1) (show 2 - (i + 1) < 2 - i from by omega) (show (i + 1)≤2 from by omega)))⟩
      ·exact lC (lI rfl) (lC (lR rfl) (lC (lR rfl) (lC (lR rfl) lN)))
      ·exact aU (kR rfl) aM
     ·obtain rfl:=f1 rfl
      refine Wq<|qW 189 198 rfl<|qF rfl ty26 rfl<|qL rfl ty24 rfl<|qY rfl (hpd) fok37 rfl<|qM rfl<|qX rfl<|qX rfl<|qB rfl ty83<|qS rfl ty83 (Sl rfl) rfl<|qA rfl<|Nl<|Wq<|Wq<|qW 202 209 rfl<|qF rfl ty26 rfl<|qL rfl ty3 rfl<|qN rfl<|qM rfl<|gM rfl ‹_›<|gN rfl ‹_›<|qP rfl ‹_› rfl<|Nl<|Wo rfl rfl<|Wu<|Wq<|qW 213 221 rfl<|qG rfl ty83 rfl (Tl rfl)<|qY rfl (hnd) fok38 rfl<|qM rfl<|qX rfl<|qX rfl<|qB rfl ty87<|qS rfl ty87 (Sl rfl) rfl<|qA rfl<|Nl<|Wq<|Wq<|qW 225 227 rfl<|qM rfl<|qN rfl<|Nl<|Wo rfl rfl<|Wu<|Wq<|Wd 231 294 (by decide) rfl mixed rfl<|qF rfl ty87 rfl<|qL rfl ty3 rfl<|qN rfl<|qM rfl<|qD rfl ‹_› rfl<|qD rfl ‹_› rfl<|qD rfl ‹_› rfl<|qP rfl ‹_› rfl<|qM rfl<|gF rfl rfl ty87 rfl<|gL rfl rfl ty4 rfl<|gM rfl rfl<|gF rfl rfl ty87 rfl<|gG rfl rfl ty23 rfl (Tl rfl)<|gF rfl rfl ty26 rfl<|gG rfl rfl ty23 rfl (Tl rfl)<|qU rfl rfl rfl (LO.neq_mac_b [s0,s1,s2,s3,s4,s5] [s0,s1,s2,s3,s4,s5] hss rfl rfl rfl rfl rfl)<|qU rfl rfl rfl (Pt rfl rfl rfl rfl)<|qP rfl rfl rfl<|qM rfl<|gF rfl rfl ty39 rfl<|gL rfl rfl ty37 rfl<|gH rfl rfl ty37<|gN rfl rfl<|qP rfl rfl rfl<|qM rfl<|gF rfl rfl ty83 rfl<|gG rfl rfl ty54 rfl (Tl rfl)<|gF rfl rfl ty39 rfl<|gL rfl rfl ty37 rfl<|qU rfl rfl rfl (Ii rfl rfl rfl rfl rfl ty37 ty54 (by simp;done))<|qU rfl rfl rfl (Lg rfl rfl ty54 rfl (Tl rfl))<|qU rfl rfl rfl (LO.neq_ad_b ps ps (neqA_self ps) rfl rfl rfl)<|gM rfl rfl<|qD rfl rfl rfl<|qD rfl rfl rfl<|qD rfl rfl rfl<|qD rfl rfl rfl<|qD rfl rfl rfl<|Ud rfl rfl rfl rfl<|Ud rfl rfl rfl rfl<|Ud rfl rfl rfl rfl<|Ud rfl rfl rfl rfl<|Ud rfl rfl rfl rfl<|Ud rfl rfl rfl rfl<|Ud rfl rfl rfl rfl<|qD rfl rfl rfl<|qU rfl rfl rfl (Pf0 rfl rfl rfl rfl)<|qP rfl rfl rfl<|qM rfl<|gF rfl rfl ty87 rfl<|gL rfl rfl ty3 rfl<|gE rfl rfl<|gM rfl rfl<|qD rfl ‹_› rfl<|qD rfl ‹_› rfl<|qD rfl ‹_› rfl<|qD rfl ‹_› rfl<|qD rfl ‹_› rfl<|qD rfl ‹_› rfl<|qD rfl ‹_› rfl<|qU rfl rfl rfl (Pf0 rfl rfl ‹_› rfl)<|qP rfl rfl rfl<|Nl ⟨by kernel_rfl,(Wo rfl rfl<|Wu<|qW 303 305 rfl<|qZ rfl (iW _ (by omega))<|qM rfl<|Nl<|WL.renameL [(0,0)] 1 (by decide) ?_ ?_ (ihA (i + 1) (show 2 - (i + 1) < 2 - i from by omega) (show (i + 1)≤2 from by omega)))⟩
      ·exact lC (lI rfl) (lC (lR rfl) (lC (lR rfl) (lC (lR rfl) lN)))
      ·exact aU (kR rfl) aM
    ·have k5:(nk != 135)=true:=by rw [hk];decide
     have k5b:(nk != 136)=false:=by rw [hk];decide
     have k6:(nk == 136)=true:=by rw [hk];decide
     obtain rfl:=f2 hk
     cases nh
     ·obtain ⟨z0,z1,z2,z3,z4,z5,rfl⟩:=six_of hln
      refine Wq<|qW 189 198 rfl<|qF rfl ty26 rfl<|qL rfl ty24 rfl<|qY rfl (hpd) fok37 rfl<|qM rfl<|qX rfl<|qX rfl<|qB rfl ty83<|qS rfl ty83 (Sl rfl) rfl<|qA rfl<|Nl<|Wq<|Wq<|qW 202 209 rfl<|qF rfl ty26 rfl<|qL rfl ty3 rfl<|qN rfl<|qM rfl<|gM rfl ‹_›<|gN rfl ‹_›<|qP rfl ‹_› rfl<|Nl<|Wo rfl rfl<|Wu<|Wq<|qW 213 221 rfl<|qG rfl ty83 rfl (Tl rfl)<|qY rfl (hnd) fok38 rfl<|qM rfl<|qX rfl<|qX rfl<|qB rfl ty87<|qS rfl ty87 (Sl rfl) rfl<|qA rfl<|Nl<|Wq<|Wq<|qW 225 227 rfl<|qM rfl<|qN rfl<|Nl<|Wo rfl rfl<|Wu<|Wq<|Wd 231 294 (by decide) rfl mixed rfl<|qF rfl ty87 rfl<|qL rfl ty3 rfl<|qN rfl<|qM rfl<|gF rfl ‹_› ty87 rfl<|gL rfl ‹_› ty3 rfl<|gN rfl ‹_›<|qT rfl ‹_› rfl<|qM rfl<|gF rfl ‹_› ty87 rfl<|gL rfl ‹_› ty4 rfl<|gM rfl ‹_›<|qD rfl rfl rfl<|qD rfl rfl rfl<|qD rfl rfl rfl<|qD rfl rfl rfl<|qD rfl rfl rfl<|qU rfl ‹_› rfl (Pf0 rfl rfl rfl rfl)<|qP rfl ‹_› rfl<|qM rfl<|gF rfl rfl ty39 rfl<|gL rfl rfl ty37 rfl<|gH rfl rfl ty37<|gN rfl rfl<|qP rfl rfl rfl<|qM rfl<|gF rfl rfl ty83 rfl<|gG rfl rfl ty54 rfl (Tl rfl)<|gF rfl rfl ty39 rfl<|gL rfl rfl ty37 rfl<|qU rfl rfl rfl (Ii rfl rfl rfl rfl rfl ty37 ty54 (by simp;done))<|qU rfl rfl rfl (Lg rfl rfl ty54 rfl (Tl rfl))<|qU rfl rfl rfl (LO.neq_ad_b tg tg (neqA_self tg) rfl rfl rfl)<|gM rfl rfl<|qD rfl rfl rfl<|qD rfl rfl rfl<|qD rfl rfl rfl<|qD rfl rfl rfl<|qD rfl rfl rfl<|Ud rfl rfl rfl rfl<|Ud rfl rfl rfl rfl<|Ud rfl rfl rfl rfl<|Ud rfl rfl rfl rfl<|Ud rfl rfl rfl rfl<|Ud rfl rfl rfl rfl<|Ud rfl rfl rfl rfl<|qD rfl rfl rfl<|qU rfl rfl rfl (Pf0 rfl rfl rfl rfl)<|qP rfl rfl rfl<|qM rfl<|gF rfl rfl ty87 rfl<|gL rfl rfl ty3 rfl<|gE rfl rfl<|gM rfl rfl<|gF rfl ‹_› ty87 rfl<|gG rfl ‹_› ty54 rfl (Tl rfl)<|gF rfl ‹_› ty39 rfl<|gL rfl ‹_› ty37 rfl<|qU rfl ‹_› rfl (Ii rfl rfl rfl rfl rfl ty37 ty54 (by simp;done))<|qU rfl ‹_› rfl (Lg rfl rfl ty54 rfl (Tl rfl))<|qU rfl ‹_› rfl (LO.neq_ad_b tg tg (neqA_self tg) rfl rfl rfl)<|qU rfl rfl rfl (Pt rfl rfl ‹_› rfl)<|qP rfl rfl rfl<|Nl ⟨by kernel_rfl,(Wo rfl rfl<|Wu<|qW 303 305 rfl<|qZ rfl (iW _ (by omega))<|qM rfl<|Nl<|WL.renameL [(0,0)] 1 (by decide) ?_ ?_ (ihA (i + 1) (show 2 - (i + 1) < 2 - i from by omega) (show (i + 1)≤2 from by omega)))⟩
      ·exact lC (lI rfl) (lC (lR rfl) (lC (lR rfl) (lC (lR rfl) lN)))
      ·exact aU (kR rfl) aM
     ·obtain rfl:=f1 rfl
      refine Wq<|qW 189 198 rfl<|qF rfl ty26 rfl<|qL rfl ty24 rfl<|qY rfl (hpd) fok37 rfl<|qM rfl<|qX rfl<|qX rfl<|qB rfl ty83<|qS rfl ty83 (Sl rfl) rfl<|qA rfl<|Nl<|Wq<|Wq<|qW 202 209 rfl<|qF rfl ty26 rfl<|qL rfl ty3 rfl<|qN rfl<|qM rfl<|gM rfl ‹_›<|gN rfl ‹_›<|qP rfl ‹_› rfl<|Nl<|Wo rfl rfl<|Wu<|Wq<|qW 213 221 rfl<|qG rfl ty83 rfl (Tl rfl)<|qY rfl (hnd) fok38 rfl<|qM rfl<|qX rfl<|qX rfl<|qB rfl ty87<|qS rfl ty87 (Sl rfl) rfl<|qA rfl<|Nl<|Wq<|Wq<|qW 225 227 rfl<|qM rfl<|qN rfl<|Nl<|Wo rfl rfl<|Wu<|Wq<|Wd 231 294 (by decide) rfl mixed rfl<|qF rfl ty87 rfl<|qL rfl ty3 rfl<|qN rfl<|qM rfl<|gF rfl ‹_› ty87 rfl<|gL rfl ‹_› ty3 rfl<|gN rfl ‹_›<|qT rfl ‹_› rfl<|qM rfl<|gF rfl ‹_› ty87 rfl<|gL rfl ‹_› ty4 rfl<|gM rfl ‹_›<|gF rfl rfl ty87 rfl<|gG rfl rfl ty23 rfl (Tl rfl)<|gF rfl rfl ty26 rfl<|gG rfl rfl ty23 rfl (Tl rfl)<|qU rfl rfl rfl (LO.neq_mac_b [s0,s1,s2,s3,s4,s5] [s0,s1,s2,s3,s4,s5] hss rfl rfl rfl rfl rfl)<|qU rfl ‹_› rfl (Pt rfl rfl rfl rfl)<|qP rfl ‹_› rfl<|qM rfl<|gF rfl rfl ty39 rfl<|gL rfl rfl ty37 rfl<|gH rfl rfl ty37<|gN rfl rfl<|qP rfl rfl rfl<|qM rfl<|gF rfl rfl ty83 rfl<|gG rfl rfl ty54 rfl (Tl rfl)<|gF rfl rfl ty39 rfl<|gL rfl rfl ty37 rfl<|qU rfl rfl rfl (Ii rfl rfl rfl rfl rfl ty37 ty54 (by simp;done))<|qU rfl rfl rfl (Lg rfl rfl ty54 rfl (Tl rfl))<|qU rfl rfl rfl (LO.neq_ad_b tg tg (neqA_self tg) rfl rfl rfl)<|gM rfl rfl<|qD rfl rfl rfl<|qD rfl rfl rfl<|qD rfl rfl rfl<|qD rfl rfl rfl<|qD rfl rfl rfl<|Ud rfl rfl rfl rfl<|Ud rfl rfl rfl rfl<|Ud rfl rfl rfl rfl<|Ud rfl rfl rfl rfl<|Ud rfl rfl rfl rfl<|Ud rfl rfl rfl rfl<|Ud rfl rfl rfl rfl<|qD rfl rfl rfl<|qU rfl rfl rfl (Pf0 rfl rfl rfl rfl)<|qP rfl rfl rfl<|qM rfl<|gF rfl rfl ty87 rfl<|gL rfl rfl ty3 rfl<|gE rfl rfl<|gM rfl rfl<|gF rfl ‹_› ty87 rfl<|gG rfl ‹_› ty54 rfl (Tl rfl)<|gF rfl ‹_› ty39 rfl<|gL rfl ‹_› ty37 rfl<|qU rfl ‹_› rfl (Ii rfl rfl rfl rfl rfl ty37 ty54 (by simp;done))<|qU rfl ‹_› rfl (Lg rfl rfl ty54 rfl (Tl rfl))<|qU rfl ‹_› rfl (LO.neq_ad_b tg tg (neqA_self tg) rfl rfl rfl)<|qU rfl rfl rfl (Pt rfl rfl ‹_› rfl)<|qP rfl rfl rfl<|Nl ⟨by kernel_rfl,(Wo rfl rfl<|Wu<|qW 303 305 rfl<|qZ rfl (iW _ (by omega))<|qM rfl<|Nl<|WL.renameL [(0,0)] 1 (by decide) ?_ ?_ (ihA (i + 1) (show 2 - (i + 1) < 2 - i from by omega) (show (i + 1)≤2 from by omega)))⟩
      ·exact lC (lI rfl) (lC (lR rfl) (lC (lR rfl) (lC (lR rfl) lN)))
      ·exact aU (kR rfl) aM
   ·subst e6
    subst hps
    have k5:(nk != 135)=false:=by rw [hk5];decide
    have k6:(nk == 136)=false:=by rw [hk5];decide
    have hnq:(!eqA ⟨true,0,0⟩ tg)=true:=by
     cases he:eqA ⟨true,0,0⟩ tg
     ·rfl
     ·rw [← eqA_eq he] at hnq
      have h1:hasA [(⟨true,0,0⟩:Ad)] ⟨true,0,0⟩=true:=hasA_mem.2 (List.mem_singleton.2 rfl)
      rw [hnq] at h1
      cases h1
    cases nh
    ·obtain ⟨z0,z1,z2,z3,z4,z5,rfl⟩:=six_of hln
     refine Wq<|qW 189 198 rfl<|qF rfl ty26 rfl<|qL rfl ty24 rfl<|qY rfl (hpd) fok37 rfl<|qM rfl<|qX rfl<|qX rfl<|qB rfl ty83<|qS rfl ty83 (Sl rfl) rfl<|qA rfl<|Nl<|Wq<|Wq<|qW 202 209 rfl<|qF rfl ty26 rfl<|qL rfl ty3 rfl<|qN rfl<|qM rfl<|gM rfl ‹_›<|gN rfl ‹_›<|qP rfl ‹_› rfl<|Nl<|Wo rfl rfl<|Wu<|Wq<|qW 213 221 rfl<|qG rfl ty83 rfl (Tl rfl)<|qY rfl (hnd) fok38 rfl<|qM rfl<|qX rfl<|qX rfl<|qB rfl ty87<|qS rfl ty87 (Sl rfl) rfl<|qA rfl<|Nl<|Wq<|Wq<|qW 225 227 rfl<|qM rfl<|qN rfl<|Nl<|Wo rfl rfl<|Wu<|Wq<|Wd 231 294 (by decide) rfl mixed rfl<|qF rfl ty87 rfl<|qL rfl ty3 rfl<|qN rfl<|qM rfl<|qD rfl ‹_› rfl<|qD rfl ‹_› rfl<|qD rfl ‹_› rfl<|qP rfl ‹_› rfl<|qM rfl<|gF rfl rfl ty87 rfl<|gL rfl rfl ty4 rfl<|gM rfl rfl<|qD rfl rfl rfl<|qD rfl rfl rfl<|qD rfl rfl rfl<|qD rfl rfl rfl<|qD rfl rfl rfl<|qU rfl rfl rfl (Pf0 rfl rfl rfl rfl)<|qP rfl rfl rfl<|qM rfl<|gF rfl rfl ty39 rfl<|gL rfl rfl ty37 rfl<|gH rfl rfl ty37<|gN rfl rfl<|qP rfl rfl rfl<|qM rfl<|gF rfl rfl ty83 rfl<|gG rfl rfl ty54 rfl (Tl rfl)<|gF rfl rfl ty39 rfl<|gL rfl rfl ty37 rfl<|qU rfl rfl rfl (Ii rfl rfl rfl rfl rfl ty37 ty54 (by simp;done))<|qU rfl rfl rfl (Lg rfl rfl ty54 rfl (Tl rfl))<|qU rfl rfl rfl (LO.neq_ad_b ⟨true,0,0⟩ tg hnq rfl rfl rfl)<|gM rfl rfl<|gF rfl rfl ty83 rfl<|gG rfl rfl ty54 rfl (Tl rfl)<|qU rfl rfl rfl (Bs rfl ty54 (.cons rfl rfl rfl rfl (Sl rfl) .nil))<|qU rfl rfl rfl (LO.neq_ad_b ⟨true,0,0⟩ ⟨true,0,0⟩ (neqA_self _) rfl rfl rfl)<|gM rfl rfl<|gF rfl rfl ty87 rfl<|gG rfl rfl ty54 rfl (Tl rfl)<|gF rfl rfl ty39 rfl<|gL rfl rfl ty37 rfl<|qU rfl rfl rfl (Ii rfl rfl rfl rfl rfl ty37 ty54 (by simp;done))<|qU rfl rfl rfl (Lg rfl rfl ty54 rfl (Tl rfl))<|qU rfl rfl rfl (LO.neq_ad_b tg tg (neqA_self tg) rfl rfl rfl)<|qU rfl rfl rfl (Pf0 rfl rfl rfl rfl)<|qU rfl rfl rfl (Pt rfl rfl rfl rfl)<|qP rfl rfl rfl<|qM rfl<|gF rfl rfl ty87 rfl<|gL rfl rfl ty3 rfl<|gE rfl rfl<|gM rfl rfl<|qD rfl ‹_› rfl<|qD rfl ‹_› rfl<|qD rfl ‹_› rfl<|qD rfl ‹_› rfl<|qD rfl ‹_› rfl<|qD rfl ‹_› rfl<|qD rfl ‹_› rfl<|qU rfl rfl rfl (Pf0 rfl rfl ‹_› rfl)<|qP rfl rfl rfl<|Nl ⟨by kernel_rfl,(Wo rfl rfl<|Wu<|qW 303 305 rfl<|qZ rfl (iW _ (by omega))<|qM rfl<|Nl<|WL.renameL [(0,0)] 1 (by decide) ?_ ?_ (ihA (i + 1) (show 2 - (i + 1) < 2 - i from by omega) (show (i + 1)≤2 from by omega)))⟩
     ·exact lC (lI rfl) (lC (lR rfl) (lC (lR rfl) (lC (lR rfl) lN)))
     ·exact aU (kR rfl) aM
    ·obtain rfl:=f1 rfl
     refine Wq<|qW 189 198 rfl<|qF rfl ty26 rfl<|qL rfl ty24 rfl<|qY rfl (hpd) fok37 rfl<|qM rfl<|qX rfl<|qX rfl<|qB rfl ty83<|qS rfl ty83 (Sl rfl) rfl<|qA rfl<|Nl<|Wq<|Wq<|qW 202 209 rfl<|qF rfl ty26 rfl<|qL rfl ty3 rfl<|qN rfl<|qM rfl<|gM rfl ‹_›<|gN rfl ‹_›<|qP rfl ‹_› rfl<|Nl<|Wo rfl rfl<|Wu<|Wq<|qW 213 221 rfl<|qG rfl ty83 rfl (Tl rfl)<|qY rfl (hnd) fok38 rfl<|qM rfl<|qX rfl<|qX rfl<|qB rfl ty87<|qS rfl ty87 (Sl rfl) rfl<|qA rfl<|Nl<|Wq<|Wq<|qW 225 227 rfl<|qM rfl<|qN rfl<|Nl<|Wo rfl rfl<|Wu<|Wq<|Wd 231 294 (by decide) rfl mixed rfl<|qF rfl ty87 rfl<|qL rfl ty3 rfl<|qN rfl<|qM rfl<|qD rfl ‹_› rfl<|qD rfl ‹_› rfl<|qD rfl ‹_› rfl<|qP rfl ‹_› rfl<|qM rfl<|gF rfl rfl ty87 rfl<|gL rfl rfl ty4 rfl<|gM rfl rfl<|gF rfl rfl ty87 rfl<|gG rfl rfl ty23 rfl (Tl rfl)<|gF rfl rfl ty26 rfl<|gG rfl rfl ty23 rfl (Tl rfl)<|qU rfl rfl rfl (LO.neq_mac_b [s0,s1,s2,s3,s4,s5] [s0,s1,s2,s3,s4,s5] hss rfl rfl rfl rfl rfl)<|qU rfl rfl rfl (Pt rfl rfl rfl rfl)<|qP rfl rfl rfl<|qM rfl<|gF rfl rfl ty39 rfl<|gL rfl rfl ty37 rfl<|gH rfl rfl ty37<|gN rfl rfl<|qP rfl rfl rfl<|qM rfl<|gF rfl rfl ty83 rfl<|gG rfl rfl ty54 rfl (Tl rfl)<|gF rfl rfl ty39 rfl<|gL rfl rfl ty37 rfl<|qU rfl rfl rfl (Ii rfl rfl rfl rfl rfl ty37 ty54 (by simp;done))<|qU rfl rfl rfl (Lg rfl rfl ty54 rfl (Tl rfl))<|qU rfl rfl rfl (LO.neq_ad_b ⟨true,0,0⟩ tg hnq rfl rfl rfl)<|gM rfl rfl<|gF rfl rfl ty83 rfl<|gG rfl rfl ty54 rfl (Tl rfl)<|qU rfl rfl rfl (Bs rfl ty54 (.cons rfl rfl rfl rfl (Sl rfl) .nil))<|qU rfl rfl rfl (LO.neq_ad_b ⟨true,0,0⟩ ⟨true,0,0⟩ (neqA_self _) rfl rfl rfl)<|gM rfl rfl<|gF rfl rfl ty87 rfl<|gG rfl rfl ty54 rfl (Tl rfl)<|gF rfl rfl ty39 rfl<|gL rfl rfl ty37 rfl<|qU rfl rfl rfl (Ii rfl rfl rfl rfl rfl ty37 ty54 (by simp;done))<|qU rfl rfl rfl (Lg rfl rfl ty54 rfl (Tl rfl))<|qU rfl rfl rfl (LO.neq_ad_b tg tg (neqA_self tg) rfl rfl rfl)<|qU rfl rfl rfl (Pf0 rfl rfl rfl rfl)<|qU rfl rfl rfl (Pt rfl rfl rfl rfl)<|qP rfl rfl rfl<|qM rfl<|gF rfl rfl ty87 rfl<|gL rfl rfl ty3 rfl<|gE rfl rfl<|gM rfl rfl<|qD rfl ‹_› rfl<|qD rfl ‹_› rfl<|qD rfl ‹_› rfl<|qD rfl ‹_› rfl<|qD rfl ‹_› rfl<|qD rfl ‹_› rfl<|qD rfl ‹_› rfl<|qU rfl rfl rfl (Pf0 rfl rfl ‹_› rfl)<|qP rfl rfl rfl<|Nl ⟨by kernel_rfl,(Wo rfl rfl<|Wu<|qW 303 305 rfl<|qZ rfl (iW _ (by omega))<|qM rfl<|Nl<|WL.renameL [(0,0)] 1 (by decide) ?_ ?_ (ihA (i + 1) (show 2 - (i + 1) < 2 - i from by omega) (show (i + 1)≤2 from by omega)))⟩
     ·exact lC (lI rfl) (lC (lR rfl) (lC (lR rfl) (lC (lR rfl) lN)))
     ·exact aU (kR rfl) aM
  ·dsimp only at hty
   rcases hty with hty|⟨hty,hds⟩
   ·have k3:(xt == 2054)=false:=by rw [hty];decide
    have k4:(xt != 34525)=true:=by rw [hty];decide
    generalize (if dcE xx=0 then dcP xx else zPk)=Q at *
    generalize dcE xx=ee at *
    refine Wq<|Wq<|qW 136 139 rfl<|qF rfl ty26 rfl<|qL rfl ty3 rfl<|qE rfl<|Nl<|Wo rfl ‹_›<|Wu<|Wq<|qW 189 198 rfl<|qF rfl ty26 rfl<|qL rfl ty24 rfl<|qY rfl (hpd) fok37 rfl<|qM rfl<|qX rfl<|qX rfl<|qB rfl ty83<|qS rfl ty83 (Sl rfl) rfl<|qA rfl<|Nl<|Wq<|Wq<|qW 202 209 rfl<|qF rfl ty26 rfl<|qL rfl ty3 rfl<|qN rfl<|qM rfl<|qD rfl ‹_› rfl<|qD rfl ‹_› rfl<|qT rfl ‹_› rfl<|Nl<|Wt rfl rfl<|Wx<|qW 303 305 rfl<|qZ rfl (iW _ (by omega))<|qM rfl<|Nl<|WL.renameL [(0,0)] 1 (by decide) ?_ ?_ (ihA (i + 1) (show 2 - (i + 1) < 2 - i from by omega) (show (i + 1)≤2 from by omega))
    ·exact lC (lI rfl) (lC (lR rfl) (lC (lR rfl) (lC (lR rfl) lN)))
    ·exact aU (kR rfl) aM
   ·have k3:(xt == 2054)=false:=by rw [hty];decide
    have k4:(xt != 34525)=false:=by rw [hty];decide
    by_cases hd0:dcE xx=0
    ·have hne:(decR (dcP xx)).2≠0:=fun h=>by
      have:=decR_dsc hd0 h
      rw [hds] at this
      cases this
     rw [hd0,if_pos rfl] at hpd
     have hnd:=decX_any (dcP xx) hcg.bB hcg.s1 hcg.s2 hcg.d1 hcg.d2
     unfold decV at hnd
     have hln:=decR_len6 (dcP xx)
     have k5:((decR (dcP xx)).2 != 0)=true:=by simpa using hne
     clear hcg hp hone
     generalize (decR (dcP xx)).2=e2_ at *
     generalize (decR (dcP xx)).1=nn at *
     generalize dcP xx=P at *
     obtain ⟨nk,nf,tg,nh,nl⟩:=nn
     dsimp only at hln
     obtain ⟨z0,z1,z2,z3,z4,z5,rfl⟩:=six_of hln
     refine Wq<|Wq<|qW 136 139 rfl<|qF rfl ty26 rfl<|qL rfl ty3 rfl<|qE rfl<|Nl<|Wo rfl ‹_›<|Wu<|Wq<|qW 189 198 rfl<|qF rfl ty26 rfl<|qL rfl ty24 rfl<|qY rfl (hpd) fok37 rfl<|qM rfl<|qX rfl<|qX rfl<|qB rfl ty83<|qS rfl ty83 (Sl rfl) rfl<|qA rfl<|Nl<|Wq<|Wq<|qW 202 209 rfl<|qF rfl ty26 rfl<|qL rfl ty3 rfl<|qN rfl<|qM rfl<|gM rfl ‹_›<|gN rfl ‹_›<|qP rfl ‹_› rfl<|Nl<|Wo rfl rfl<|Wu<|Wq<|qW 213 221 rfl<|qG rfl ty83 rfl (Tl rfl)<|qY rfl (hnd) fok38 rfl<|qM rfl<|qX rfl<|qX rfl<|qB rfl ty87<|qS rfl ty87 (Sl rfl) rfl<|qA rfl<|Nl<|Wq<|Wq<|qW 225 227 rfl<|qM rfl<|qN rfl<|Nl<|Wt rfl ‹_›<|Wx<|qW 303 305 rfl<|qZ rfl (iW _ (by omega))<|qM rfl<|Nl<|WL.renameL [(0,0)] 1 (by decide) ?_ ?_ (ihA (i + 1) (show 2 - (i + 1) < 2 - i from by omega) (show (i + 1)≤2 from by omega))
     ·exact lC (lI rfl) (lC (lR rfl) (lC (lR rfl) (lC (lR rfl) lN)))
     ·exact aU (kR rfl) aM
    ·have k5:(dcE xx != 0)=true:=by simpa using hd0
     generalize (if dcE xx=0 then dcP xx else zPk)=Q at *
     generalize dcE xx=ee at *
     refine Wq<|Wq<|qW 136 139 rfl<|qF rfl ty26 rfl<|qL rfl ty3 rfl<|qE rfl<|Nl<|Wo rfl ‹_›<|Wu<|Wq<|qW 189 198 rfl<|qF rfl ty26 rfl<|qL rfl ty24 rfl<|qY rfl (hpd) fok37 rfl<|qM rfl<|qX rfl<|qX rfl<|qB rfl ty83<|qS rfl ty83 (Sl rfl) rfl<|qA rfl<|Nl<|Wq<|Wq<|qW 202 209 rfl<|qF rfl ty26 rfl<|qL rfl ty3 rfl<|qN rfl<|qM rfl<|gM rfl ‹_›<|gN rfl ‹_›<|qP rfl ‹_› rfl<|Nl<|Wt rfl ‹_›<|Wx<|qW 303 305 rfl<|qZ rfl (iW _ (by omega))<|qM rfl<|Nl<|WL.renameL [(0,0)] 1 (by decide) ?_ ?_ (ihA (i + 1) (show 2 - (i + 1) < 2 - i from by omega) (show (i + 1)≤2 from by omega))
     ·exact lC (lI rfl) (lC (lR rfl) (lC (lR rfl) (lC (lR rfl) lN)))
     ·exact aU (kR rfl) aM
 ·have g1:decide ((i:Int) < 2)=false:=decide_eq_false (by omega)
  refine Wq<|qW 47 48 rfl<|qK rfl<|Nl<|Wq<|Wo rfl ‹_›<|Wx<|Wq<|qW 309 311 rfl<|qY rfl (hawk) fok30 rfl<|qA rfl<|Nl<|Wz ⟨.inl rfl,_,mt,Rc (Rt rfl) (Rv),aM,?_⟩
  exact ⟨rfl,rfl⟩
end Go.Proofs.YtlcndmciognneaaGreatDoor
