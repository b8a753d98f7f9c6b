/-
  The check of a frame from a port, by both.
-/
import Derived.Test.YtlcndmciognneaaGreatDoorWe
import Derived.Test.YtlcndmciognneaaGreatDoorMab
namespace Go.Proofs.YtlcndmciognneaaGreatDoor
open Go.RowKit
theorem take_mem {α:Type} {l:List α} {i:Nat} (h:i < l.length) (a:α):a∈l.take (i + 1)↔a∈l.take i∨l[i]=a:=by
 rw [List.take_succ_eq_append_getElem h,List.mem_append,List.mem_singleton]
 constructor
 ·rintro (h|h)
  ·exact .inl h
  ·exact .inr h.symm
 ·rintro (h|h)
  ·exact .inl h
  ·exact .inr h.symm
def dscF (b:List Int):Bool:=dcE b == 0 && ((dcP b).p == 58 && (decide (0 < (dcP b).bs.length) && (decide (133≤gB (dcP b).bs 0) && decide (gB (dcP b).bs 0≤137))))
theorem dsc_cases (b:List Int):(dcE b≠0∧dscF b=false)∨(dcE b=0∧((dcP b).p == 58)=false∧dscF b=false)∨(dcE b=0∧((dcP b).p == 58)=true∧(dcP b).bs.length=0∧dscF b=false) ∨
 (dcE b=0∧((dcP b).p == 58)=true∧0 < (dcP b).bs.length∧gB (dcP b).bs 0 < 133∧dscF b=false)∨(dcE b=0∧((dcP b).p == 58)=true∧0 < (dcP b).bs.length∧137 < gB (dcP b).bs 0∧dscF b=false) ∨
 (dcE b=0∧((dcP b).p == 58)=true∧0 < (dcP b).bs.length∧(133≤gB (dcP b).bs 0∧gB (dcP b).bs 0≤137)∧dscF b=true):=by
 unfold dscF
 by_cases h1:dcE b=0
 ·by_cases h2:(dcP b).p=58
  ·by_cases h3:(dcP b).bs.length=0
   ·exact .inr (.inr (.inl ⟨h1,by simpa using h2,h3,by simp [h1,h2,h3]⟩))
   ·have h3':0 < (dcP b).bs.length:=by omega
    by_cases h4:gB (dcP b).bs 0 < 133
    ·exact .inr (.inr (.inr (.inl ⟨h1,by simpa using h2,h3',h4,by simp [h1,h2,h3'];omega⟩)))
    ·by_cases h5:137 < gB (dcP b).bs 0
     ·exact .inr (.inr (.inr (.inr (.inl ⟨h1,by simpa using h2,h3',h5,by simp [h1,h2,h3'];omega⟩))))
     ·exact .inr (.inr (.inr (.inr (.inr ⟨h1,by simpa using h2,h3',⟨by omega,by omega⟩,by simp [h1,h2,h3'];omega⟩))))
  ·exact .inr (.inl ⟨h1,by simpa using h2,by simp [h2]⟩)
 ·exact .inl ⟨h1,by simp [h1]⟩
set_option maxHeartbeats 4000000 in
theorem dscE_any (f:Fr) (hf:FrX f):AFn Tryz.prog 65 0 [.agg (frC f)] mt (.tup [.agg (pkC (if dscF f.data then dcP f.data else zPk)),.base (.bool (dscF f.data))]) mt:=by
 refine AFn.eq Tryz.func65 rfl rfl (Nat.le_of_ble_eq_true rfl) ?_
 have hpd:=pdec_any f.data hf.ok.bB (by have:=hf.ok.bl;omega)
 have hcs:=dsc_cases f.data
 have hbB:=(dcP_g hf.ok.bB).bB
 generalize dscF f.data=ds at *
 generalize dcP f.data=P at *
 generalize dcE f.data=pe at *
 have b0:=hbB.at 0
 obtain ⟨fd,fs,fv,ft,fx⟩:=f
 have p6:=hf.ok.d6
 have q6:=hf.ok.s6
 clear hf
 dsimp only at p6 q6 hpd
 obtain ⟨p0,p1,p2,p3,p4,p5,rfl⟩:=six_of p6
 obtain ⟨q0,q1,q2,q3,q4,q5,rfl⟩:=six_of q6
 refine Wq<|qW 0 3 rfl<|qC rfl<|qB rfl ty83<|qA rfl<|Nl ?_
 rcases hcs with ⟨h1,rfl⟩|⟨rfl,h2,rfl⟩|⟨rfl,h2,h3,rfl⟩|⟨rfl,h2,h3,h4,rfl⟩|⟨rfl,h2,h3,h4,rfl⟩|⟨rfl,h2,h3,h4,rfl⟩
 case' inl =>
  have k1:(pe != 0)=true:=by simpa using h1
  rw [rdV_bad h1] at hpd
  refine Wq<|qW 7 16 rfl<|qF rfl ty26 rfl<|qL rfl ty24 rfl<|qY rfl (hpd) fok115 rfl<|qM rfl<|qX rfl<|qX rfl<|qB rfl ty83<|qS rfl ty83 (Sl rfl) rfl<|qA rfl<|Nl ?_
 case' inr.inl =>
  have k1:(0 != 0)=false:=rfl
  have k2:(P.p != 58)=true:=by simp at h2;simpa using h2
  rw [rdV_ok] at hpd
  refine Wq<|qW 7 16 rfl<|qF rfl ty26 rfl<|qL rfl ty24 rfl<|qY rfl (hpd) fok115 rfl<|qM rfl<|qX rfl<|qX rfl<|qB rfl ty83<|qS rfl ty83 (Sl rfl) rfl<|qA rfl<|Nl ?_
 case' inr.inr.inl =>
  have k2:(P.p != 58)=false:=by simp at h2;simpa using h2
  have k3:((P.bs.length:Int) == 0)=true:=by rw [h3];rfl
  rw [rdV_ok] at hpd
  refine Wq<|qW 7 16 rfl<|qF rfl ty26 rfl<|qL rfl ty24 rfl<|qY rfl (hpd) fok115 rfl<|qM rfl<|qX rfl<|qX rfl<|qB rfl ty83<|qS rfl ty83 (Sl rfl) rfl<|qA rfl<|Nl ?_
 case' inr.inr.inr.inl =>
  have k2:(P.p != 58)=false:=by simp at h2;simpa using h2
  have k3:((P.bs.length:Int) == 0)=false:=by rw [beq_eq_false_iff_ne];omega
  have k4:decide (gB P.bs 0 < 133)=true:=decide_eq_true h4
  rw [rdV_ok] at hpd
  refine Wq<|qW 7 16 rfl<|qF rfl ty26 rfl<|qL rfl ty24 rfl<|qY rfl (hpd) fok115 rfl<|qM rfl<|qX rfl<|qX rfl<|qB rfl ty83<|qS rfl ty83 (Sl rfl) rfl<|qA rfl<|Nl ?_
 case' inr.inr.inr.inr.inl =>
  have k2:(P.p != 58)=false:=by simp at h2;simpa using h2
  have k3:((P.bs.length:Int) == 0)=false:=by rw [beq_eq_false_iff_ne];omega
  have k4:decide (gB P.bs 0 < 133)=false:=decide_eq_false (by omega)
  have k5:decide (137 < gB P.bs 0)=true:=decide_eq_true h4
  rw [rdV_ok] at hpd
  refine Wq<|qW 7 16 rfl<|qF rfl ty26 rfl<|qL rfl ty24 rfl<|qY rfl (hpd) fok115 rfl<|qM rfl<|qX rfl<|qX rfl<|qB rfl ty83<|qS rfl ty83 (Sl rfl) rfl<|qA rfl<|Nl ?_
 case' inr.inr.inr.inr.inr =>
  have k2:(P.p != 58)=false:=by simp at h2;simpa using h2
  have k3:((P.bs.length:Int) == 0)=false:=by rw [beq_eq_false_iff_ne];omega
  have k4:decide (gB P.bs 0 < 133)=false:=decide_eq_false (by omega)
  have k5:decide (137 < gB P.bs 0)=false:=decide_eq_false (by omega)
  rw [rdV_ok] at hpd
  refine Wq<|qW 7 16 rfl<|qF rfl ty26 rfl<|qL rfl ty24 rfl<|qY rfl (hpd) fok115 rfl<|qM rfl<|qX rfl<|qX rfl<|qB rfl ty83<|qS rfl ty83 (Sl rfl) rfl<|qA rfl<|Nl<|Wq<|Wq<|qW 20 47 rfl<|qM rfl<|qN rfl<|qM rfl<|gF rfl rfl ty83 rfl<|gL rfl rfl ty3 rfl<|gN rfl rfl<|qP rfl rfl rfl<|qM rfl<|gF rfl ‹_› ty83 rfl<|gL rfl ‹_› ty24 rfl<|gH rfl ‹_› ty24<|gE rfl ‹_›<|qP rfl ‹_› rfl<|qM rfl<|gF rfl ‹_› ty83 rfl<|gL rfl ‹_› ty24 rfl<|qU rfl ‹_› rfl (Ii rfl rfl rfl rfl rfl ty24 ty5 (by omega))<|qU rfl ‹_› rfl (Li rfl rfl (by_at (by omega)) ty5 rfl)<|gK rfl ‹_›<|qP rfl ‹_› rfl<|qM rfl<|gF rfl ‹_› ty83 rfl<|gL rfl ‹_› ty24 rfl<|qU rfl ‹_› rfl (Ii rfl rfl rfl rfl rfl ty24 ty5 (by omega))<|qU rfl ‹_› rfl (Li rfl rfl (by_at (by omega)) ty5 rfl)<|gGt rfl ‹_›<|qP rfl ‹_› rfl<|Nl<|Wo rfl ‹_›<|Wu<|Wq<|qW 58 61 rfl<|qG rfl ty83 rfl (Tl rfl)<|qS rfl ty83 (Sl rfl) rfl<|qA rfl<|Nl<|Wz ⟨.inl rfl,_,mt,(Rc (Ra0 rfl rfl ty83 rfl (Tl rfl)) (Rc (Rt rfl) Rv)),aM,?_⟩
  exact ⟨rfl,rfl⟩
 all_goals
  repeat (refine Wq ?_)
  refine qW 20 47 rfl<|qM rfl<|qN rfl<|qM rfl ?_
  first
   | (refine RW.sd rfl rfl rfl ?_ rfl ?_;(· (first|rfl|assumption)))
   | (refine RW.gd rfl rfl rfl ?_ rfl (LO.fieldAddr rfl rfl ty83 rfl (by decide)) ?_;(· (first|rfl|assumption)))
  first
   | (refine RW.sd rfl rfl rfl ?_ rfl ?_;(· (first|rfl|assumption)))
   | (refine RW.gd rfl rfl rfl ?_ rfl (LO.load rfl rfl rfl rfl ty3 rfl) ?_;(· (first|rfl|assumption)))
  first
   | (refine RW.sd rfl rfl rfl ?_ rfl ?_;(· (first|rfl|assumption)))
   | (refine RW.gd rfl rfl rfl ?_ rfl (LO.neq rfl rfl rfl) ?_;(· (first|rfl|assumption)))
  first
   | (refine RW.opd rfl rfl (LO.pick_t rfl rfl ?_ rfl) ?_;(· (first|rfl|assumption)))
   | (refine RW.opd rfl rfl (LO.pick_f rfl rfl ?_ rfl) ?_;(· (first|rfl|assumption)))
  refine qM rfl ?_
  first
   | (refine RW.sd rfl rfl rfl ?_ rfl ?_;(· (first|rfl|assumption)))
   | (refine RW.gd rfl rfl rfl ?_ rfl (LO.fieldAddr rfl rfl ty83 rfl (by decide)) ?_;(· (first|rfl|assumption)))
  first
   | (refine RW.sd rfl rfl rfl ?_ rfl ?_;(· (first|rfl|assumption)))
   | (refine RW.gd rfl rfl rfl ?_ rfl (LO.load rfl rfl rfl rfl ty24 rfl) ?_;(· (first|rfl|assumption)))
  first
   | (refine RW.sd rfl rfl rfl ?_ rfl ?_;(· (first|rfl|assumption)))
   | (refine RW.gd rfl rfl rfl ?_ rfl (LO.len_isl rfl rfl rfl ty24) ?_;(· (first|rfl|assumption)))
  first
   | (refine RW.sd rfl rfl rfl ?_ rfl ?_;(· (first|rfl|assumption)))
   | (refine RW.gd rfl rfl rfl ?_ rfl (LO.eql rfl rfl rfl) ?_;(· (first|rfl|assumption)))
  first
   | (refine RW.opd rfl rfl (LO.pick_t rfl rfl ?_ rfl) ?_;(· (first|rfl|assumption)))
   | (refine RW.opd rfl rfl (LO.pick_f rfl rfl ?_ rfl) ?_;(· (first|rfl|assumption)))
  refine qM rfl ?_
  first
   | (refine RW.sd rfl rfl rfl ?_ rfl ?_;(· (first|rfl|assumption)))
   | (refine RW.gd rfl rfl rfl ?_ rfl (LO.fieldAddr rfl rfl ty83 rfl (by decide)) ?_;(· (first|rfl|assumption)))
  first
   | (refine RW.sd rfl rfl rfl ?_ rfl ?_;(· (first|rfl|assumption)))
   | (refine RW.gd rfl rfl rfl ?_ rfl (LO.load rfl rfl rfl rfl ty24 rfl) ?_;(· (first|rfl|assumption)))
  first
   | (refine RW.sd rfl rfl rfl ?_ rfl ?_;(· (first|rfl|assumption)))
   | (refine RW.gd rfl rfl rfl ?_ rfl (LO.indexAddr_isl rfl rfl rfl rfl rfl ty24 ty5 ?_) ?_;(· (first|rfl|assumption));(· (first|omega|decide|assumption|fail|(simp;done)|(simp;omega))))
  first
   | (refine RW.sd rfl rfl rfl ?_ rfl ?_;(· (first|rfl|assumption)))
   | (refine RW.gd rfl rfl rfl ?_ rfl (LO.load_imm rfl rfl (by_at (by omega)) ty5 rfl) ?_;(· (first|rfl|assumption)))
  first
   | (refine RW.sd rfl rfl rfl ?_ rfl ?_;(· (first|rfl|assumption)))
   | (refine RW.gd rfl rfl rfl ?_ rfl (LO.lss rfl rfl rfl) ?_;(· (first|rfl|assumption)))
  first
   | (refine RW.opd rfl rfl (LO.pick_t rfl rfl ?_ rfl) ?_;(· (first|rfl|assumption)))
   | (refine RW.opd rfl rfl (LO.pick_f rfl rfl ?_ rfl) ?_;(· (first|rfl|assumption)))
  refine qM rfl ?_
  first
   | (refine RW.sd rfl rfl rfl ?_ rfl ?_;(· (first|rfl|assumption)))
   | (refine RW.gd rfl rfl rfl ?_ rfl (LO.fieldAddr rfl rfl ty83 rfl (by decide)) ?_;(· (first|rfl|assumption)))
  first
   | (refine RW.sd rfl rfl rfl ?_ rfl ?_;(· (first|rfl|assumption)))
   | (refine RW.gd rfl rfl rfl ?_ rfl (LO.load rfl rfl rfl rfl ty24 rfl) ?_;(· (first|rfl|assumption)))
  first
   | (refine RW.sd rfl rfl rfl ?_ rfl ?_;(· (first|rfl|assumption)))
   | (refine RW.gd rfl rfl rfl ?_ rfl (LO.indexAddr_isl rfl rfl rfl rfl rfl ty24 ty5 ?_) ?_;(· (first|rfl|assumption));(· (first|omega|decide|assumption|fail|(simp;done)|(simp;omega))))
  first
   | (refine RW.sd rfl rfl rfl ?_ rfl ?_;(· (first|rfl|assumption)))
   | (refine RW.gd rfl rfl rfl ?_ rfl (LO.load_imm rfl rfl (by_at (by omega)) ty5 rfl) ?_;(· (first|rfl|assumption)))
  first
   | (refine RW.sd rfl rfl rfl ?_ rfl ?_;(· (first|rfl|assumption)))
   | (refine RW.gd rfl rfl rfl ?_ rfl (LO.gtr rfl rfl rfl) ?_;(· (first|rfl|assumption)))
  first
   | (refine RW.opd rfl rfl (LO.pick_t rfl rfl ?_ rfl) ?_;(· (first|rfl|assumption)))
   | (refine RW.opd rfl rfl (LO.pick_f rfl rfl ?_ rfl) ?_;(· (first|rfl|assumption)))
  refine Nl<|Wt rfl (by first|rfl|assumption) ?_
  repeat (refine Wq ?_)
  refine qW 51 54 rfl<|Od rfl rfl (Bs rfl ty83 .nil)<|qS rfl ty83 (Sl rfl) rfl<|qA rfl<|Nl<|W.nilc (q:=1) (j:=8) rfl rfl (Sl rfl)<|Wz ⟨.inl rfl,_,mt,(Rc (Ra0 rfl rfl ty83 rfl (Tl rfl)) (Rc (Rt rfl) Rv)),aM,?_⟩
  exact ⟨rfl,rfl⟩
def chqB (big own res tag arp v4 v6 dsc:Bool) (rv nv pv:Int):Int:=if big then 11 else if !own then 1 else if res then 2 else if tag then 3 else if arp then rv else if v4 then pv else if v6 then (if dsc then nv else pv) else 4
def chqV (r:Rl) (f:Fr):Int:=chqB (decide ((1500:Int) < (f.data.length:Int))) (decide (f.src∈r.macs)) (resM f.dst) (f.vl != 0) (f.ty == 2054) (f.ty == 2048) (f.ty == 34525) (dscF f.data) (resolV r f) (nbdV r f (dcP f.data)) (plainF (decide (f.dst=bcM)) (grpE f.dst))
theorem ty_cases (t:Int):((t == 2054)=true∧(t == 2048)=false∧(t == 34525)=false∧t=2054)∨((t == 2054)=false∧(t == 2048)=true∧(t == 34525)=false∧t=2048)∨((t == 2054)=false∧(t == 2048)=false∧(t == 34525)=true∧t=34525)∨((t == 2054)=false∧(t == 2048)=false∧(t == 34525)=false∧(t != 2054)=true∧(t != 2048)=true∧(t != 34525)=true):=by
 by_cases h1:t=2054
 ·subst h1;exact .inl ⟨rfl,rfl,rfl,rfl⟩
 ·by_cases h2:t=2048
  ·subst h2;exact .inr (.inl ⟨rfl,rfl,rfl,rfl⟩)
  ·by_cases h3:t=34525
   ·subst h3;exact .inr (.inr (.inl ⟨rfl,rfl,rfl,rfl⟩))
   ·exact .inr (.inr (.inr ⟨by simpa using h1,by simpa using h2,by simpa using h3,by simpa using h1,by simpa using h2,by simpa using h3⟩))
set_option maxHeartbeats 4000000 in
theorem fchE_any (r:Rl) (hr:RlG r) (f:Fr) (hf:FrX f):AFn Tryz.prog 26 0 [.agg (ruleC r),.agg (preC lan4),.agg (preC lan6),.agg (frC f)] mt (.base (.int .i64 (chqV r f))) mt:=by
 refine AFn.eq Tryz.func26 rfl rfl (Nat.le_of_ble_eq_true rfl) ?_
 have hown:=hasM_any r.macs f.src hr.macs hf.ok.s6 hr.nm
 have hres:=resE_any f.dst hf.ok.d6
 have hrsl:=resolE_any r hr f hf
 have hpl:=plainE_any f hf
 have hds:=dscE_any f hf
 have hnb:=nbE_any r hr f hf (dcP f.data) (dcP_g hf.ok.bB)
 have hty:=ty_cases f.ty
 unfold chqV
 generalize nbdV r f (dcP f.data)=nv at *
 generalize resolV r f=rv at *
 generalize plainF (decide (f.dst=bcM)) (grpE f.dst)=pv at *
 generalize dcP f.data=P at *
 generalize dscF f.data=ds at *
 generalize resM f.dst=res at *
 generalize decide (f.src∈r.macs)=own at *
 obtain ⟨big,hbig⟩:∃ b,decide ((1500:Int) < (f.data.length:Int))=b:=⟨_,rfl⟩
 obtain ⟨tag,htag⟩:∃ b,(f.vl != 0)=b:=⟨_,rfl⟩
 rw [hbig,htag]
 obtain ⟨fd,fs,fv,ft,fx⟩:=f
 have p6:=hf.ok.d6
 have q6:=hf.ok.s6
 clear hf
 obtain ⟨r1,r2,r3,r4,r5,r6,r7,r8⟩:=r
 clear hr
 dsimp only at p6 q6 hown hres hrsl hpl hds hnb hty hbig htag ⊢
 obtain ⟨p0,p1,p2,p3,p4,p5,rfl⟩:=six_of p6
 obtain ⟨q0,q1,q2,q3,q4,q5,rfl⟩:=six_of q6
 obtain ⟨ps,pd,pp,pt,pbs⟩:=P
 refine Wq<|qW 0 5 rfl<|qC rfl<|qC rfl<|qC rfl<|qC rfl<|qA rfl<|Nl<|Wq<|Wb ?_
 cases big
 case' true =>
  refine Wq<|qW 9 14 rfl<|qF rfl ty26 rfl<|qL rfl ty24 rfl<|qH rfl ty24<|qGt rfl<|qA rfl<|Nl<|Wt rfl ‹_›<|Wq<|qW 18 19 rfl<|qA rfl<|Nl<|Wz ⟨.inl rfl,_,mt,Rc (Rt rfl) (Rv),aM,?_⟩
  exact ⟨rfl,rfl⟩
 case' false =>
  refine Wq<|qW 9 14 rfl<|qF rfl ty26 rfl<|qL rfl ty24 rfl<|qH rfl ty24<|qGt rfl<|qA rfl<|Nl<|Wo rfl ‹_› ?_
  cases own
  case' false =>
   refine Wq<|qW 23 30 rfl<|qF rfl ty39 rfl<|qL rfl ty36 rfl<|qF rfl ty26 rfl<|qG rfl ty23 rfl (Tl rfl)<|qY rfl (hown) fok61 rfl<|qO rfl<|qA rfl<|Nl<|Wt rfl rfl<|Wq<|qW 34 35 rfl<|qA rfl<|Nl<|Wz ⟨.inl rfl,_,mt,Rc (Rt rfl) (Rv),aM,?_⟩
   exact ⟨rfl,rfl⟩
  case' true =>
   refine Wq<|qW 23 30 rfl<|qF rfl ty39 rfl<|qL rfl ty36 rfl<|qF rfl ty26 rfl<|qG rfl ty23 rfl (Tl rfl)<|qY rfl (hown) fok61 rfl<|qO rfl<|qA rfl<|Nl<|Wo rfl rfl ?_
   cases res
   case' true =>
    refine Wq<|qW 39 43 rfl<|qF rfl ty26 rfl<|qG rfl ty23 rfl (Tl rfl)<|qY rfl (hres) fok62 rfl<|qA rfl<|Nl<|Wt rfl rfl<|Wq<|qW 47 48 rfl<|qA rfl<|Nl<|Wz ⟨.inl rfl,_,mt,Rc (Rt rfl) (Rv),aM,?_⟩
    exact ⟨rfl,rfl⟩
   case' false =>
    refine Wq<|qW 39 43 rfl<|qF rfl ty26 rfl<|qG rfl ty23 rfl (Tl rfl)<|qY rfl (hres) fok62 rfl<|qA rfl<|Nl<|Wo rfl rfl ?_
    cases tag
    case' true =>
     refine Wq<|qW 52 56 rfl<|qF rfl ty26 rfl<|qL rfl ty3 rfl<|qN rfl<|qA rfl<|Nl<|Wt rfl ‹_›<|Wq<|qW 60 61 rfl<|qA rfl<|Nl<|Wz ⟨.inl rfl,_,mt,Rc (Rt rfl) (Rv),aM,?_⟩
     exact ⟨rfl,rfl⟩
    case' false =>
     refine Wq<|qW 52 56 rfl<|qF rfl ty26 rfl<|qL rfl ty3 rfl<|qN rfl<|qA rfl<|Nl<|Wo rfl ‹_›<|Wu<|Wq<|Wq<|qW 65 67 rfl<|qF rfl ty26 rfl<|qL rfl ty3 rfl<|Nl<|Wb ?_
     rcases hty with ⟨k1,k2,k3,rfl⟩|⟨k1,k2,k3,rfl⟩|⟨k1,k2,k3,rfl⟩|⟨k1,k2,k3,_⟩
     ·
      refine Wq<|qW 71 73 rfl<|qE rfl<|qA rfl<|Nl<|Wt rfl rfl<|Wq<|qW 77 82 rfl<|qG rfl ty39 rfl (Tl rfl)<|qG rfl ty56 rfl (Tl rfl)<|qG rfl ty26 rfl (Tl rfl)<|qY rfl (hrsl) fok63 rfl<|qA rfl<|Nl<|Wz ⟨.inl rfl,_,mt,Rc (Rt rfl) (Rv),aM,?_⟩
      exact ⟨rfl,rfl⟩
     ·
      refine Wq<|qW 71 73 rfl<|qE rfl<|qA rfl<|Nl<|Wo rfl rfl<|Wq<|qW 86 88 rfl<|qE rfl<|qA rfl<|Nl<|Wt rfl rfl<|Wq<|qW 92 95 rfl<|qG rfl ty26 rfl (Tl rfl)<|qY rfl (hpl) fok64 rfl<|qA rfl<|Nl<|Wz ⟨.inl rfl,_,mt,Rc (Rt rfl) (Rv),aM,?_⟩
      exact ⟨rfl,rfl⟩
     ·
      refine Wq<|qW 71 73 rfl<|qE rfl<|qA rfl<|Nl<|Wo rfl rfl<|Wq<|qW 86 88 rfl<|qE rfl<|qA rfl<|Nl<|Wo rfl rfl<|Wq<|qW 99 101 rfl<|qE rfl<|qA rfl<|Nl<|Wt rfl rfl ?_
      cases ds
      ·
       refine Wq<|Wq<|qW 105 113 rfl<|qG rfl ty26 rfl (Tl rfl)<|qY rfl (hds) fok65 rfl<|qM rfl<|qX rfl<|qX rfl<|qB rfl ty83<|qS rfl ty83 (Sl rfl) rfl<|qA rfl<|Nl<|Wq<|qW 117 118 rfl<|qM rfl<|Nl<|Wo rfl rfl<|Wu<|Wq<|qW 132 135 rfl<|qG rfl ty26 rfl (Tl rfl)<|qY rfl (hpl) fok64 rfl<|qA rfl<|Nl<|Wz ⟨.inl rfl,_,mt,Rc (Rt rfl) (Rv),aM,?_⟩
       exact ⟨rfl,rfl⟩
      ·
       refine Wq<|Wq<|qW 105 113 rfl<|qG rfl ty26 rfl (Tl rfl)<|qY rfl (hds) fok65 rfl<|qM rfl<|qX rfl<|qX rfl<|qB rfl ty83<|qS rfl ty83 (Sl rfl) rfl<|qA rfl<|Nl<|Wq<|qW 117 118 rfl<|qM rfl<|Nl<|Wt rfl rfl<|Wq<|qW 122 128 rfl<|qG rfl ty39 rfl (Tl rfl)<|qG rfl ty56 rfl (Tl rfl)<|qG rfl ty26 rfl (Tl rfl)<|qG rfl ty83 rfl (Tl rfl)<|qY rfl (hnb) fok66 rfl<|qA rfl<|Nl<|Wz ⟨.inl rfl,_,mt,Rc (Rt rfl) (Rv),aM,?_⟩
       exact ⟨rfl,rfl⟩
     ·
      rw [k1,k2,k3]
      refine Wq<|qW 71 73 rfl<|qE rfl<|qA rfl<|Nl<|Wo rfl ‹_›<|Wq<|qW 86 88 rfl<|qE rfl<|qA rfl<|Nl<|Wo rfl ‹_›<|Wq<|qW 99 101 rfl<|qE rfl<|qA rfl<|Nl<|Wo rfl ‹_›<|Wu<|Wq<|qW 139 140 rfl<|qA rfl<|Nl<|Wz ⟨.inl rfl,_,mt,Rc (Rt rfl) (Rv),aM,?_⟩
      exact ⟨rfl,rfl⟩
set_option maxHeartbeats 8000000 in
theorem fchX_any (r:Rl) (hr:RlG r) (f:Fr) (hf:FrX f):AFn Tryz.prog 33 0 [.agg (ruleC r),.agg (preC lan4),.agg (preC lan6),.agg (frC f)] mt (.base (.int .i64 (chqV r f))) mt:=by
 refine AFn.eq Tryz.func33 rfl rfl (Nat.le_of_ble_eq_true rfl) ?_
 have hres:=resX_any f.dst hf.ok.d6
 have hrsl:=resolX_any r hr f hf
 have hg:=grpX_any f hf
 have hpd:=rdec_any f.data hf.ok.bB (by have:=hf.ok.bl;omega)
 have hcs:=dsc_cases f.data
 have hbB:=(dcP_g hf.ok.bB).bB
 have hnb:=nbX_any r hr f hf (dcP f.data) (dcP_g hf.ok.bB)
 have hty:=ty_cases f.ty
 unfold chqV
 generalize nbdV r f (dcP f.data)=nv at *
 generalize resolV r f=rv at *
 generalize dcP f.data=P at *
 generalize dscF f.data=ds at *
 generalize dcE f.data=pe at *
 generalize resM f.dst=res at *
 generalize grpE f.dst=gr at *
 obtain ⟨bc,hbc⟩:∃ b,decide (f.dst=bcM)=b:=⟨_,rfl⟩
 obtain ⟨own,hown⟩:∃ b,decide (f.src∈r.macs)=b:=⟨_,rfl⟩
 obtain ⟨big,hbig⟩:∃ b,decide ((1500:Int) < (f.data.length:Int))=b:=⟨_,rfl⟩
 obtain ⟨tag,htag⟩:∃ b,(f.vl != 0)=b:=⟨_,rfl⟩
 rw [hbig,htag,hown,hbc]
 obtain ⟨fd,fs,fv,ft,fx⟩:=f
 have p6:=hf.ok.d6
 have q6:=hf.ok.s6
 clear hf
 obtain ⟨r1,r2,r3,ms,r5,r6,r7,r8⟩:=r
 have hmn:=hr.nm
 have hm6:=hr.macs
 clear hr
 dsimp only at p6 q6 hown hres hrsl hpd hnb hty hbig htag hmn hm6 hbc hg ⊢
 obtain ⟨p0,p1,p2,p3,p4,p5,rfl⟩:=six_of p6
 obtain ⟨q0,q1,q2,q3,q4,q5,rfl⟩:=six_of q6
 have b0:=hbB.at 0
 refine Wq<|qW 0 5 rfl<|qC rfl<|qC rfl<|qC rfl<|qC rfl<|qA rfl<|Nl<|Wq<|qW 9 10 rfl<|qA rfl<|Nl<|Wq<|Wq<|qW 14 18 rfl<|qF rfl ty39 rfl<|qL rfl ty36 rfl<|qH rfl ty36<|qM rfl<|Nl<|Wb<|W.loop_keep (α:=Nat × Bool) (fun x=>ms.length - x.1) 4 (fun x=>[(4,.own 0 0),(5,.own 1 0),(6,.own 2 0),(7,.own 3 0),(9,.base (.bool x.2)),(17,.base (.int .i64 (x.1:Int)))]) (fun x=>up (up (up (up mt 0 (some (ruleC ⟨r1,r2,r3,ms,r5,r6,r7,r8⟩))) 1 (some (preC lan4))) 2 (some (preC lan6))) 3 (some (frC ⟨[p0,p1,p2,p3,p4,p5],[q0,q1,q2,q3,q4,q5],fv,ft,fx⟩))) (fun x=>x.1≤ms.length∧x.2=decide ([q0,q1,q2,q3,q4,q5]∈ms.take x.1)) (0,false) [(0,0),(1,1),(2,2),(3,3)] (.cons (t:=15) rfl (by exact .inl rfl) (.cons (t:=16) rfl (by exact .inl rfl) .nil)) (show 0≤ms.length∧false=decide ([q0,q1,q2,q3,q4,q5]∈ms.take 0) from ⟨Nat.zero_le _,by simp⟩) (by decide) ?_ ?_ ?_
 ·exact lC (lI rfl) (lC (lI rfl) (lC (lI rfl) (lC (lI rfl) (lC (lR rfl) (lC (lR rfl) lN)))))
 ·exact aU (kR rfl) (aU (kR rfl) (aU (kR rfl) (aU (kR rfl) aM)))
 rintro ⟨i,fl⟩ hIA ihA
 try (dsimp only at hIA)
 try dsimp only [baseT,List.cons_append,List.nil_append]
 obtain ⟨hi,hfl⟩:=hIA
 by_cases hc:i < ms.length
 ·have g1:decide ((i:Int) < (ms.length:Int))=true:=decide_eq_true (by omega)
  have hx6:=hm6 _ (List.getElem_mem hc)
  have hxt:=macs_tk hm6 hc
  have htm:=take_mem hc [q0,q1,q2,q3,q4,q5]
  generalize ms[i]=x at *
  obtain ⟨x0,x1,x2,x3,x4,x5,rfl⟩:=six_of hx6
  refine Wq<|qW 22 23 rfl<|qK rfl<|Nl<|Wq<|Wt rfl ‹_›<|Wu<|Wq<|Wb<|Wq<|qW 27 31 rfl<|qJ rfl rfl ty36 ty23 (by omega)<|Od rfl rfl (Lg rfl rfl ty23 rfl hxt)<|qB rfl ty23<|qS rfl ty23 (Sl rfl) rfl<|Nl ?_
  cases fl
  ·
   have hn:=of_decide_eq_false hfl.symm
   refine qW 35 43 rfl<|qM rfl<|qM rfl<|gG rfl rfl ty23 rfl (Tl rfl)<|gF rfl rfl ty26 rfl<|gG rfl rfl ty23 rfl (Tl rfl)<|qU rfl rfl rfl (LO.eql_mac [x0,x1,x2,x3,x4,x5] [q0,q1,q2,q3,q4,q5] rfl rfl rfl rfl rfl)<|qP rfl rfl rfl<|qA rfl<|Nl<|qW 47 49 rfl<|qZ rfl (iW _ (by omega))<|qM rfl<|Nl<|WL.renameL [(0,0),(1,1),(2,2),(3,3)] 4 (by decide) ?_ ?_ (ihA ((i + 1),(decide ([x0,x1,x2,x3,x4,x5]=[q0,q1,q2,q3,q4,q5]))) (show ms.length - (i + 1) < ms.length - i from by omega) (show (i + 1)≤ms.length∧(decide ([x0,x1,x2,x3,x4,x5]=[q0,q1,q2,q3,q4,q5]))=decide ([q0,q1,q2,q3,q4,q5]∈ms.take (i + 1)) from ⟨by omega,decide_eq_decide.2 (htm.trans (or_iff_right hn)).symm⟩))
   ·exact lC (lI rfl) (lC (lI rfl) (lC (lI rfl) (lC (lI rfl) (lC (lR rfl) (lC (lR rfl) (lC (lR rfl) (lC (lR rfl) lN)))))))
   ·exact aU (kR rfl) (aU (kR rfl) (aU (kR rfl) (aU (kR rfl) aM)))
  ·
   have hn:=of_decide_eq_true hfl.symm
   refine qW 35 43 rfl<|qM rfl<|qM rfl<|qD rfl rfl rfl<|qD rfl rfl rfl<|qD rfl rfl rfl<|qD rfl rfl rfl<|qT rfl rfl rfl<|qA rfl<|Nl<|qW 47 49 rfl<|qZ rfl (iW _ (by omega))<|qM rfl<|Nl<|WL.renameL [(0,0),(1,1),(2,2),(3,3)] 4 (by decide) ?_ ?_ (ihA ((i + 1),true) (show ms.length - (i + 1) < ms.length - i from by omega) (show (i + 1)≤ms.length∧true=decide ([q0,q1,q2,q3,q4,q5]∈ms.take (i + 1)) from ⟨by omega,(decide_eq_true (htm.2 (.inl hn))).symm⟩))
   ·exact lC (lI rfl) (lC (lI rfl) (lC (lI rfl) (lC (lI rfl) (lC (lR rfl) (lC (lR rfl) (lC (lR rfl) (lC (lR rfl) lN)))))))
   ·exact aU (kR rfl) (aU (kR rfl) (aU (kR rfl) (aU (kR rfl) aM)))
 ·have g1:decide ((i:Int) < (ms.length:Int))=false:=decide_eq_false (by omega)
  have hft:fl=own:=by rw [hfl,← hown,List.take_of_length_le (by omega)]
  subst hft
  clear hfl hown
  refine Wq<|qW 22 23 rfl<|qK rfl<|Nl<|Wq<|Wo rfl ‹_›<|Wx<|Wq<|Wb ?_
  cases big
  case' true =>
   refine Wq<|qW 53 58 rfl<|qF rfl ty26 rfl<|qL rfl ty24 rfl<|qH rfl ty24<|qGt rfl<|qA rfl<|Nl<|Wt rfl ‹_›<|Wq<|qW 62 63 rfl<|qA rfl<|Nl<|Wz ⟨.inl rfl,_,mt,Rc (Rt rfl) (Rv),aM,?_⟩
   exact ⟨rfl,rfl⟩
  case' false =>
   refine Wq<|qW 53 58 rfl<|qF rfl ty26 rfl<|qL rfl ty24 rfl<|qH rfl ty24<|qGt rfl<|qA rfl<|Nl<|Wo rfl ‹_› ?_
   cases fl
   case' false =>
    refine Wq<|qW 67 70 rfl<|qM rfl<|qO rfl<|qA rfl<|Nl<|Wt rfl rfl<|Wq<|qW 74 75 rfl<|qA rfl<|Nl<|Wz ⟨.inl rfl,_,mt,Rc (Rt rfl) (Rv),aM,?_⟩
    exact ⟨rfl,rfl⟩
   case' true =>
    refine Wq<|qW 67 70 rfl<|qM rfl<|qO rfl<|qA rfl<|Nl<|Wo rfl rfl ?_
    cases res
    case' true =>
     refine Wq<|qW 79 83 rfl<|qF rfl ty26 rfl<|qG rfl ty23 rfl (Tl rfl)<|qY rfl (hres) fok70 rfl<|qA rfl<|Nl<|Wt rfl rfl<|Wq<|qW 87 88 rfl<|qA rfl<|Nl<|Wz ⟨.inl rfl,_,mt,Rc (Rt rfl) (Rv),aM,?_⟩
     exact ⟨rfl,rfl⟩
    case' false =>
     refine Wq<|qW 79 83 rfl<|qF rfl ty26 rfl<|qG rfl ty23 rfl (Tl rfl)<|qY rfl (hres) fok70 rfl<|qA rfl<|Nl<|Wo rfl rfl ?_
     cases tag
     case' true =>
      refine Wq<|qW 92 96 rfl<|qF rfl ty26 rfl<|qL rfl ty3 rfl<|qN rfl<|qA rfl<|Nl<|Wt rfl ‹_›<|Wq<|qW 100 101 rfl<|qA rfl<|Nl<|Wz ⟨.inl rfl,_,mt,Rc (Rt rfl) (Rv),aM,?_⟩
      exact ⟨rfl,rfl⟩
     case' false =>
      refine Wq<|qW 92 96 rfl<|qF rfl ty26 rfl<|qL rfl ty3 rfl<|qN rfl<|qA rfl<|Nl<|Wo rfl ‹_› ?_
      rcases hty with ⟨k1,k2,k3,rfl⟩|⟨k1,k2,k3,rfl⟩|⟨k1,k2,k3,rfl⟩|⟨k1,k2,k3,k4,k5,k6⟩
      case' inl =>
       refine Wq<|qW 105 119 rfl<|qF rfl ty26 rfl<|qL rfl ty3 rfl<|qN rfl<|qM rfl<|gF rfl rfl ty26 rfl<|gL rfl rfl ty3 rfl<|gN rfl rfl<|qT rfl rfl rfl<|qM rfl<|qD rfl rfl rfl<|qD rfl rfl rfl<|qD rfl rfl rfl<|qP rfl rfl rfl<|qA rfl<|Nl<|Wo rfl rfl<|Wq<|qW 128 132 rfl<|qF rfl ty26 rfl<|qL rfl ty3 rfl<|qE rfl<|qA rfl<|Nl<|Wt rfl rfl<|Wq<|qW 136 141 rfl<|qG rfl ty39 rfl (Tl rfl)<|qG rfl ty56 rfl (Tl rfl)<|qG rfl ty26 rfl (Tl rfl)<|qY rfl (hrsl) fok71 rfl<|qA rfl<|Nl<|Wz ⟨.inl rfl,_,mt,Rc (Rt rfl) (Rv),aM,?_⟩
       exact ⟨rfl,rfl⟩
      case' inr.inr.inr =>
       rw [k1,k2,k3]
       refine Wq<|qW 105 119 rfl<|qF rfl ty26 rfl<|qL rfl ty3 rfl<|qN rfl<|qM rfl<|gF rfl ‹_› ty26 rfl<|gL rfl ‹_› ty3 rfl<|gN rfl ‹_›<|qT rfl ‹_› rfl<|qM rfl<|gF rfl ‹_› ty26 rfl<|gL rfl ‹_› ty3 rfl<|gN rfl ‹_›<|qT rfl ‹_› rfl<|qA rfl<|Nl<|Wt rfl ‹_›<|Wq<|qW 123 124 rfl<|qA rfl<|Nl<|Wz ⟨.inl rfl,_,mt,Rc (Rt rfl) (Rv),aM,?_⟩
       exact ⟨rfl,rfl⟩
      case' inr.inl =>
       refine Wq<|qW 105 119 rfl<|qF rfl ty26 rfl<|qL rfl ty3 rfl<|qN rfl<|qM rfl<|qD rfl rfl rfl<|qD rfl rfl rfl<|qD rfl rfl rfl<|qP rfl rfl rfl<|qM rfl<|qD rfl rfl rfl<|qD rfl rfl rfl<|qD rfl rfl rfl<|qP rfl rfl rfl<|qA rfl<|Nl<|Wo rfl rfl<|Wq<|qW 128 132 rfl<|qF rfl ty26 rfl<|qL rfl ty3 rfl<|qE rfl<|qA rfl<|Nl<|Wo rfl rfl<|Wu<|Wq<|Wq<|qW 145 148 rfl<|qF rfl ty26 rfl<|qL rfl ty3 rfl<|qE rfl<|Nl<|Wo rfl rfl<|Wu ?_
      case' inr.inr.inl =>
       refine Wq<|qW 105 119 rfl<|qF rfl ty26 rfl<|qL rfl ty3 rfl<|qN rfl<|qM rfl<|gF rfl rfl ty26 rfl<|gL rfl rfl ty3 rfl<|gN rfl rfl<|qT rfl rfl rfl<|qM rfl<|gF rfl rfl ty26 rfl<|gL rfl rfl ty3 rfl<|gN rfl rfl<|qT rfl rfl rfl<|qA rfl<|Nl<|Wo rfl rfl<|Wq<|qW 128 132 rfl<|qF rfl ty26 rfl<|qL rfl ty3 rfl<|qE rfl<|qA rfl<|Nl<|Wo rfl rfl<|Wu<|Wq<|Wq<|qW 145 148 rfl<|qF rfl ty26 rfl<|qL rfl ty3 rfl<|qE rfl<|Nl<|Wt rfl rfl ?_
       rcases hcs with ⟨h1,rfl⟩|⟨rfl,h2,rfl⟩|⟨rfl,h2,h3,rfl⟩|⟨rfl,h2,h3,h4,rfl⟩|⟨rfl,h2,h3,h4,rfl⟩|⟨rfl,h2,h3,h4,rfl⟩
       case' inl =>
        have k1:(pe == 0)=false:=by simpa using h1
        rw [rdV_bad h1] at hpd
        refine Wq<|qW 152 161 rfl<|qF rfl ty26 rfl<|qL rfl ty24 rfl<|qY rfl (hpd) fok37 rfl<|qM rfl<|qX rfl<|qX rfl<|qB rfl ty83<|qS rfl ty83 (Sl rfl) rfl<|qA rfl<|Nl ?_
       case' inr.inl =>
        rw [rdV_ok] at hpd
        refine Wq<|qW 152 161 rfl<|qF rfl ty26 rfl<|qL rfl ty24 rfl<|qY rfl (hpd) fok37 rfl<|qM rfl<|qX rfl<|qX rfl<|qB rfl ty83<|qS rfl ty83 (Sl rfl) rfl<|qA rfl<|Nl ?_
       case' inr.inr.inl =>
        have k3:decide ((0:Int) < (P.bs.length:Int))=false:=decide_eq_false (by omega)
        rw [rdV_ok] at hpd
        refine Wq<|qW 152 161 rfl<|qF rfl ty26 rfl<|qL rfl ty24 rfl<|qY rfl (hpd) fok37 rfl<|qM rfl<|qX rfl<|qX rfl<|qB rfl ty83<|qS rfl ty83 (Sl rfl) rfl<|qA rfl<|Nl ?_
       case' inr.inr.inr.inl =>
        have k3:decide ((0:Int) < (P.bs.length:Int))=true:=decide_eq_true (by omega)
        have k4:decide ((133:Int)≤gB P.bs 0)=false:=decide_eq_false (by omega)
        rw [rdV_ok] at hpd
        refine Wq<|qW 152 161 rfl<|qF rfl ty26 rfl<|qL rfl ty24 rfl<|qY rfl (hpd) fok37 rfl<|qM rfl<|qX rfl<|qX rfl<|qB rfl ty83<|qS rfl ty83 (Sl rfl) rfl<|qA rfl<|Nl ?_
       case' inr.inr.inr.inr.inl =>
        have k3:decide ((0:Int) < (P.bs.length:Int))=true:=decide_eq_true (by omega)
        have k4:decide ((133:Int)≤gB P.bs 0)=true:=decide_eq_true (by omega)
        have k5:decide (gB P.bs 0≤137)=false:=decide_eq_false (by omega)
        rw [rdV_ok] at hpd
        refine Wq<|qW 152 161 rfl<|qF rfl ty26 rfl<|qL rfl ty24 rfl<|qY rfl (hpd) fok37 rfl<|qM rfl<|qX rfl<|qX rfl<|qB rfl ty83<|qS rfl ty83 (Sl rfl) rfl<|qA rfl<|Nl ?_
       case' inr.inr.inr.inr.inr =>
        have k3:decide ((0:Int) < (P.bs.length:Int))=true:=decide_eq_true (by omega)
        have k4:decide ((133:Int)≤gB P.bs 0)=true:=decide_eq_true (by omega)
        have k5:decide (gB P.bs 0≤137)=true:=decide_eq_true (by omega)
        rw [rdV_ok] at hpd
        refine Wq<|qW 152 161 rfl<|qF rfl ty26 rfl<|qL rfl ty24 rfl<|qY rfl (hpd) fok37 rfl<|qM rfl<|qX rfl<|qX rfl<|qB rfl ty83<|qS rfl ty83 (Sl rfl) rfl<|qA rfl<|Nl<|Wq<|qW 165 192 rfl<|qM rfl<|qE rfl<|qM rfl<|gF rfl rfl ty83 rfl<|gL rfl rfl ty3 rfl<|gE rfl rfl<|qT rfl rfl rfl<|qM rfl<|gF rfl ‹_› ty83 rfl<|gL rfl ‹_› ty24 rfl<|gH rfl ‹_› ty24<|gGt rfl ‹_›<|qT rfl ‹_› rfl<|qM rfl<|gF rfl ‹_› ty83 rfl<|gL rfl ‹_› ty24 rfl<|qU rfl ‹_› rfl (Ii rfl rfl rfl rfl rfl ty24 ty5 (by omega))<|qU rfl ‹_› rfl (Li rfl rfl (by_at (by omega)) ty5 rfl)<|gGe rfl ‹_›<|qT rfl ‹_› rfl<|qM rfl<|gF rfl ‹_› ty83 rfl<|gL rfl ‹_› ty24 rfl<|qU rfl ‹_› rfl (Ii rfl rfl rfl rfl rfl ty24 ty5 (by omega))<|qU rfl ‹_› rfl (Li rfl rfl (by_at (by omega)) ty5 rfl)<|gLe rfl ‹_›<|qT rfl ‹_› rfl<|Nl<|Wt rfl ‹_›<|Wq<|qW 196 202 rfl<|qG rfl ty39 rfl (Tl rfl)<|qG rfl ty56 rfl (Tl rfl)<|qG rfl ty26 rfl (Tl rfl)<|qG rfl ty83 rfl (Tl rfl)<|qY rfl (hnb) fok72 rfl<|qA rfl<|Nl<|Wz ⟨.inl rfl,_,mt,Rc (Rt rfl) (Rv),aM,?_⟩
        exact ⟨rfl,rfl⟩
       all_goals
        repeat (refine Wq ?_)
        refine qW 165 192 rfl<|qM rfl<|qE rfl<|qM rfl ?_
        first
         | (refine RW.sd rfl rfl rfl ?_ rfl ?_;(· (first|rfl|assumption)))
         | (refine RW.gd rfl rfl rfl ?_ rfl (LO.fieldAddr rfl rfl ty83 rfl (by decide)) ?_;(· (first|rfl|assumption)))
        first
         | (refine RW.sd rfl rfl rfl ?_ rfl ?_;(· (first|rfl|assumption)))
         | (refine RW.gd rfl rfl rfl ?_ rfl (LO.load rfl rfl rfl rfl ty3 rfl) ?_;(· (first|rfl|assumption)))
        first
         | (refine RW.sd rfl rfl rfl ?_ rfl ?_;(· (first|rfl|assumption)))
         | (refine RW.gd rfl rfl rfl ?_ rfl (LO.eql rfl rfl rfl) ?_;(· (first|rfl|assumption)))
        first
         | (refine RW.opd rfl rfl (LO.pick_t rfl rfl ?_ rfl) ?_;(· (first|rfl|assumption)))
         | (refine RW.opd rfl rfl (LO.pick_f rfl rfl ?_ rfl) ?_;(· (first|rfl|assumption)))
        refine qM rfl ?_
        first
         | (refine RW.sd rfl rfl rfl ?_ rfl ?_;(· (first|rfl|assumption)))
         | (refine RW.gd rfl rfl rfl ?_ rfl (LO.fieldAddr rfl rfl ty83 rfl (by decide)) ?_;(· (first|rfl|assumption)))
        first
         | (refine RW.sd rfl rfl rfl ?_ rfl ?_;(· (first|rfl|assumption)))
         | (refine RW.gd rfl rfl rfl ?_ rfl (LO.load rfl rfl rfl rfl ty24 rfl) ?_;(· (first|rfl|assumption)))
        first
         | (refine RW.sd rfl rfl rfl ?_ rfl ?_;(· (first|rfl|assumption)))
         | (refine RW.gd rfl rfl rfl ?_ rfl (LO.len_isl rfl rfl rfl ty24) ?_;(· (first|rfl|assumption)))
        first
         | (refine RW.sd rfl rfl rfl ?_ rfl ?_;(· (first|rfl|assumption)))
         | (refine RW.gd rfl rfl rfl ?_ rfl (LO.gtr rfl rfl rfl) ?_;(· (first|rfl|assumption)))
        first
         | (refine RW.opd rfl rfl (LO.pick_t rfl rfl ?_ rfl) ?_;(· (first|rfl|assumption)))
         | (refine RW.opd rfl rfl (LO.pick_f rfl rfl ?_ rfl) ?_;(· (first|rfl|assumption)))
        refine qM rfl ?_
        first
         | (refine RW.sd rfl rfl rfl ?_ rfl ?_;(· (first|rfl|assumption)))
         | (refine RW.gd rfl rfl rfl ?_ rfl (LO.fieldAddr rfl rfl ty83 rfl (by decide)) ?_;(· (first|rfl|assumption)))
        first
         | (refine RW.sd rfl rfl rfl ?_ rfl ?_;(· (first|rfl|assumption)))
         | (refine RW.gd rfl rfl rfl ?_ rfl (LO.load rfl rfl rfl rfl ty24 rfl) ?_;(· (first|rfl|assumption)))
        first
         | (refine RW.sd rfl rfl rfl ?_ rfl ?_;(· (first|rfl|assumption)))
         | (refine RW.gd rfl rfl rfl ?_ rfl (LO.indexAddr_isl rfl rfl rfl rfl rfl ty24 ty5 ?_) ?_;(· (first|rfl|assumption));(· (first|omega|decide|assumption|fail|(simp;done)|(simp;omega))))
        first
         | (refine RW.sd rfl rfl rfl ?_ rfl ?_;(· (first|rfl|assumption)))
         | (refine RW.gd rfl rfl rfl ?_ rfl (LO.load_imm rfl rfl (by_at (by omega)) ty5 rfl) ?_;(· (first|rfl|assumption)))
        first
         | (refine RW.sd rfl rfl rfl ?_ rfl ?_;(· (first|rfl|assumption)))
         | (refine RW.gd rfl rfl rfl ?_ rfl (LO.geq rfl rfl rfl) ?_;(· (first|rfl|assumption)))
        first
         | (refine RW.opd rfl rfl (LO.pick_t rfl rfl ?_ rfl) ?_;(· (first|rfl|assumption)))
         | (refine RW.opd rfl rfl (LO.pick_f rfl rfl ?_ rfl) ?_;(· (first|rfl|assumption)))
        refine qM rfl ?_
        first
         | (refine RW.sd rfl rfl rfl ?_ rfl ?_;(· (first|rfl|assumption)))
         | (refine RW.gd rfl rfl rfl ?_ rfl (LO.fieldAddr rfl rfl ty83 rfl (by decide)) ?_;(· (first|rfl|assumption)))
        first
         | (refine RW.sd rfl rfl rfl ?_ rfl ?_;(· (first|rfl|assumption)))
         | (refine RW.gd rfl rfl rfl ?_ rfl (LO.load rfl rfl rfl rfl ty24 rfl) ?_;(· (first|rfl|assumption)))
        first
         | (refine RW.sd rfl rfl rfl ?_ rfl ?_;(· (first|rfl|assumption)))
         | (refine RW.gd rfl rfl rfl ?_ rfl (LO.indexAddr_isl rfl rfl rfl rfl rfl ty24 ty5 ?_) ?_;(· (first|rfl|assumption));(· (first|omega|decide|assumption|fail|(simp;done)|(simp;omega))))
        first
         | (refine RW.sd rfl rfl rfl ?_ rfl ?_;(· (first|rfl|assumption)))
         | (refine RW.gd rfl rfl rfl ?_ rfl (LO.load_imm rfl rfl (by_at (by omega)) ty5 rfl) ?_;(· (first|rfl|assumption)))
        first
         | (refine RW.sd rfl rfl rfl ?_ rfl ?_;(· (first|rfl|assumption)))
         | (refine RW.gd rfl rfl rfl ?_ rfl (LO.leq rfl rfl rfl) ?_;(· (first|rfl|assumption)))
        first
         | (refine RW.opd rfl rfl (LO.pick_t rfl rfl ?_ rfl) ?_;(· (first|rfl|assumption)))
         | (refine RW.opd rfl rfl (LO.pick_f rfl rfl ?_ rfl) ?_;(· (first|rfl|assumption)))
        refine Nl<|Wo rfl (by first|rfl|assumption)<|Wu ?_
      all_goals
       repeat (refine Wq ?_)
       refine Wb ?_
       cases bc
       ·
        repeat (refine Wq ?_)
        refine Wd 206 211 (by decide) rfl mixed rfl<|qF rfl ty26 rfl<|qG rfl ty23 rfl (Tl rfl)<|qY rfl (bcX_any) fok39 rfl<|Od rfl rfl (LO.eql_mac_b [p0,p1,p2,p3,p4,p5] bcM hbc rfl rfl rfl rfl rfl)<|qA rfl<|Nl ⟨by kernel_rfl,(Wo rfl rfl ?_)⟩
        cases gr
        ·
         repeat (refine Wq ?_)
         refine qW 220 224 rfl<|qF rfl ty26 rfl<|qG rfl ty23 rfl (Tl rfl)<|qY rfl (hg) fok23 rfl<|qA rfl<|Nl<|Wo rfl rfl<|Wu ?_
         repeat (refine Wq ?_)
         refine qW 233 234 rfl<|qA rfl<|Nl<|Wz ⟨.inl rfl,_,mt,Rc (Rt rfl) (Rv),aM,?_⟩
         exact ⟨rfl,rfl⟩
        ·
         repeat (refine Wq ?_)
         refine qW 220 224 rfl<|qF rfl ty26 rfl<|qG rfl ty23 rfl (Tl rfl)<|qY rfl (hg) fok23 rfl<|qA rfl<|Nl<|Wt rfl rfl ?_
         repeat (refine Wq ?_)
         refine qW 228 229 rfl<|qA rfl<|Nl<|Wz ⟨.inl rfl,_,mt,Rc (Rt rfl) (Rv),aM,?_⟩
         exact ⟨rfl,rfl⟩
       ·
        repeat (refine Wq ?_)
        refine Wd 206 211 (by decide) rfl mixed rfl<|qF rfl ty26 rfl<|qG rfl ty23 rfl (Tl rfl)<|qY rfl (bcX_any) fok39 rfl<|Od rfl rfl (LO.eql_mac_b [p0,p1,p2,p3,p4,p5] bcM hbc rfl rfl rfl rfl rfl)<|qA rfl<|Nl ⟨by kernel_rfl,(Wt rfl rfl ?_)⟩
        repeat (refine Wq ?_)
        refine qW 215 216 rfl<|qA rfl<|Nl<|Wz ⟨.inl rfl,_,mt,Rc (Rt rfl) (Rv),aM,?_⟩
        exact ⟨rfl,rfl⟩
end Go.Proofs.YtlcndmciognneaaGreatDoor
