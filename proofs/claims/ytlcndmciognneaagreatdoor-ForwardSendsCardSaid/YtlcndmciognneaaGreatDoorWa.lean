/-
  Where a frame goes, by the document. The rule of a port, copied. Which addresses lie in the blocks of the exchange (plain).
-/
import Derived.Test.YtlcndmciognneaaGreatDoorVe
import Derived.Test.YtlcndmciognneaaGreatDoorRc
import Derived.Test.YtlcndmciognneaaGreatDoorRx
import Derived.Test.YtlcndmciognneaaGreatDoorCe
import Derived.Test.YtlcndmciognneaaGreatDoorMab
namespace Go.Proofs.YtlcndmciognneaaGreatDoor
open Go.RowKit
theorem whereX_any (l:List Rl) (m:List Int) (hm:m.length=6) (hl:l.length≤100000) (hr:∀ r,r∈l→r.macs.length≤1000∧∀ x,x∈r.macs→x.length=6):AFn Tryz.prog 25 0 [.isl (rulesC l) l.length,.agg (bytesC m)] mt (whereV l m) mt:=by
 refine AFn.eq Tryz.func25 rfl rfl (Nat.le_of_ble_eq_true rfl) ?_
 obtain ⟨m0,m1,m2,m3,m4,m5,rfl⟩:=six_of hm
 refine Wq<|qW 0 3 rfl<|qC rfl<|qA rfl<|qA rfl<|Nl<|Wq<|Wq<|qW 7 10 rfl<|qM rfl<|qH rfl ty30<|qM rfl<|Nl<|Wb<|W.loop_keep (α:=Nat) (fun x=>l.length - x) 1 (fun x=>[(3,.own 0 0),(12,.base (.int .i64 (x:Int)))]) (fun x=>up mt 0 (some (bytesC [m0,m1,m2,m3,m4,m5]))) (fun x=>x≤l.length∧whereF l [m0,m1,m2,m3,m4,m5]=whereF (l.drop x) [m0,m1,m2,m3,m4,m5]) 0 [(0,0)] (.cons (t:=10) rfl (by exact .inl rfl) (.cons (t:=11) rfl (by exact .inl rfl) .nil)) (show 0≤l.length∧whereF l [m0,m1,m2,m3,m4,m5]=whereF (l.drop 0) [m0,m1,m2,m3,m4,m5] from ⟨Nat.zero_le _,rfl⟩) (by decide) ?_ ?_ ?_
 ·exact lC (lI rfl) (lC (lR rfl) lN)
 ·exact aU (kR rfl) aM
 rintro i hIA ihA
 try (dsimp only at hIA)
 try dsimp only [baseT,List.cons_append,List.nil_append]
 obtain ⟨hi,hw⟩:=hIA
 by_cases hc:i < l.length
 ·have g1:decide ((i:Int) < (l.length:Int))=true:=decide_eq_true (by omega)
  have hri:=hr _ (List.getElem_mem hc)
  have hat:=whereF_at (m:=[m0,m1,m2,m3,m4,m5]) hc
  have hdr:=whereF_drop (m:=[m0,m1,m2,m3,m4,m5]) hc
  refine Wq<|qW 14 15 rfl<|qK rfl<|Nl<|Wq<|Wt rfl ‹_›<|Wu<|Wq<|Wb<|Wq<|qW 19 23 rfl<|qJ rfl rfl ty30 ty39 (by omega)<|Od rfl rfl (Lg rfl rfl ty39 rfl (rules_tk hc))<|qB rfl ty39<|qS rfl ty39 (Sl rfl) rfl<|Nl ?_
  generalize l[i]=r at *
  obtain ⟨port,asn,sw,ms,v4,v6,rate,burst⟩:=r
  dsimp only at hri hat hdr
  obtain ⟨hmn,hm6⟩:=hri
  refine Wq<|qW 27 31 rfl<|qF rfl ty39 rfl<|qL rfl ty36 rfl<|qH rfl ty36<|qM rfl<|Nl<|Wb<|W.loop_keep (α:=Nat) (fun x=>ms.length - x) 2 (fun x=>[(3,.own 0 0),(7,.own 1 0),(19,.base (.int .i64 (x:Int)))]) (fun x=>up (up mt 0 (some (bytesC [m0,m1,m2,m3,m4,m5]))) 1 (some ([.base (.int .i64 port),.base (.int .i64 asn),.base (.int .i64 sw),.isl (macsC ms) ms.length,.isl (adsC v4) v4.length,.isl (adsC v6) v6.length,.base (.int .i64 rate),.base (.int .i64 burst)]))) (fun x=>x≤ms.length∧∀ q,q < x→ms[q]?≠some [m0,m1,m2,m3,m4,m5]) 0 [(0,0),(1,21)] (.cons (t:=10) rfl (by exact .inl rfl) (.cons (t:=11) rfl (by exact .inl rfl) (.cons (t:=12) rfl (by exact .inl rfl) (.cons (t:=17) rfl (by exact .inl rfl) (.cons (t:=18) rfl (by exact .inl rfl) .nil))))) (show 0≤ms.length∧∀ q,q < 0→ms[q]?≠some [m0,m1,m2,m3,m4,m5] from ⟨Nat.zero_le _,fun q h=>absurd h (Nat.not_lt_zero _)⟩) (by decide) ?_ ?_ ?_
  ·exact lC (lI rfl) (lC (lI rfl) (lC (lR rfl) lN))
  ·exact aU (kR rfl) (aU (kR rfl) aM)
  rintro j hIB ihB
  try (dsimp only at hIB)
  try dsimp only [baseT,List.cons_append,List.nil_append]
  obtain ⟨hj,hno⟩:=hIB
  by_cases hd:j < ms.length
  ·have g2:decide ((j:Int) < (ms.length:Int))=true:=decide_eq_true (by omega)
   have hx6:=hm6 _ (List.getElem_mem hd)
   have hxt:=macs_tk hm6 hd
   have hxm:=List.getElem_mem hd
   have hnx:=no_nextM hno hd
   generalize ms[j]=x at *
   obtain ⟨x0,x1,x2,x3,x4,x5,rfl⟩:=six_of hx6
   refine Wq<|qW 35 36 rfl<|qK rfl<|Nl<|Wq<|Wt rfl ‹_›<|Wu<|Wq<|Wb<|Wq<|qW 40 44 rfl<|qJ rfl rfl ty36 ty23 (by omega)<|Od rfl rfl (Lg rfl rfl ty23 rfl hxt)<|qB rfl ty23<|qS rfl ty23 (Sl rfl) rfl<|Nl ?_
   by_cases e:([x0,x1,x2,x3,x4,x5]:List Int)=[m0,m1,m2,m3,m4,m5]
   ·have k1:decide (([x0,x1,x2,x3,x4,x5]:List Int)=[m0,m1,m2,m3,m4,m5])=true:=decide_eq_true e
    refine Wq<|qW 48 51 rfl<|qG rfl ty23 rfl (Tl rfl)<|qG rfl ty23 rfl (Tl rfl)<|Od rfl rfl (LO.eql_mac [x0,x1,x2,x3,x4,x5] [m0,m1,m2,m3,m4,m5] rfl rfl rfl rfl rfl)<|Nl<|Wt rfl ‹_›<|Wq<|qW 55 59 rfl<|qF rfl ty39 rfl<|qL rfl ty3 rfl<|qA rfl<|qA rfl<|Nl<|Wz ⟨.inl rfl,_,mt,Rc (Rt rfl) (Rc (Rt rfl) (Rv)),aM,?_⟩
    exact ⟨by unfold whereV;rw [hw,hat (e ▸ hxm)];rfl,rfl⟩
   ·have k1:decide (([x0,x1,x2,x3,x4,x5]:List Int)=[m0,m1,m2,m3,m4,m5])=false:=decide_eq_false e
    refine Wq<|qW 48 51 rfl<|qG rfl ty23 rfl (Tl rfl)<|qG rfl ty23 rfl (Tl rfl)<|Od rfl rfl (LO.eql_mac [x0,x1,x2,x3,x4,x5] [m0,m1,m2,m3,m4,m5] rfl rfl rfl rfl rfl)<|Nl<|Wo rfl ‹_›<|Wu<|qW 63 65 rfl<|qZ rfl (iW _ (by omega))<|qM rfl<|Nl<|WL.renameL [(0,0),(1,1)] 2 (by decide) ?_ ?_ (ihB (j + 1) (show ms.length - (j + 1) < ms.length - j from by omega) (show (j + 1)≤ms.length∧∀ q,q < (j + 1)→ms[q]?≠some [m0,m1,m2,m3,m4,m5] from ⟨by omega,hnx (fun h=>e h.symm)⟩))
    ·exact lC (lI rfl) (lC (lI rfl) (lC (lR rfl) (lC (lR rfl) (lC (lR rfl) (lC (lR rfl) (lC (lR rfl) (lC (lR rfl) lN)))))))
    ·exact aU (kR rfl) (aU (kR rfl) aM)
  ·have g2:decide ((j:Int) < (ms.length:Int))=false:=decide_eq_false (by omega)
   have hn:¬ [m0,m1,m2,m3,m4,m5]∈ms:=fun h=>by
    obtain ⟨q,hq,e⟩:=List.getElem_of_mem h
    exact hno q (by omega) (by rw [List.getElem?_eq_getElem hq,e])
   refine Wq<|qW 35 36 rfl<|qK rfl<|Nl<|Wq<|Wo rfl ‹_›<|Wx<|qW 69 71 rfl<|qZ rfl (iW _ (by omega))<|qM rfl<|Nl<|WL.renameL [(0,0)] 1 (by decide) ?_ ?_ (ihA (i + 1) (show l.length - (i + 1) < l.length - i from by omega) (show (i + 1)≤l.length∧whereF l [m0,m1,m2,m3,m4,m5]=whereF (l.drop (i + 1)) [m0,m1,m2,m3,m4,m5] from ⟨by omega,hw.trans (hdr hn)⟩))
   ·exact lC (lI rfl) (lC (lR rfl) (lC (lR rfl) (lC (lR rfl) lN)))
   ·exact aU (kR rfl) aM
 ·have g1:decide ((i:Int) < (l.length:Int))=false:=decide_eq_false (by omega)
  refine Wq<|qW 14 15 rfl<|qK rfl<|Nl<|Wq<|Wo rfl ‹_›<|Wx ?_
  obtain rfl:i=l.length:=by omega
  refine Wq<|qW 75 77 rfl<|qA rfl<|qA rfl<|Nl<|Wz ⟨.inl rfl,_,mt,Rc (Rt rfl) (Rc (Rt rfl) (Rv)),aM,?_⟩
  exact ⟨by unfold whereV;rw [hw,List.drop_length];rfl,rfl⟩
theorem boundX_any (l:List Bd) (a:Ad) (hl:l.length≤100000) (hm:MacOk l):AFn Tryz.prog 106 0 [.isl (bdsC l) l.length,.agg (adC a)] mt (boundV l a) mt:=by
 refine AFn.eq Tryz.func106 rfl rfl (Nat.le_of_ble_eq_true rfl)<|Wq<|qW 0 3 rfl<|qC rfl<|qB rfl ty161<|qA rfl<|Nl<|Wq<|Wq<|qW 7 10 rfl<|qM rfl<|qH rfl ty31<|qM rfl<|Nl<|Wb<|W.rename [(0,0),(1,1)] 2 (T':=up (up (up (up (up mt 3 (some (.own 0 0))) 4 (some (.own 1 0))) 8 (some (.isl (bdsC l) l.length))) 9 (some (.base (.int .i64 (l.length:Int))))) 10 (some (.base (.int .i64 (0:Int))))) (H':=up (up mt 0 (some (adC a))) 1 (some (bdC zBd))) (by decide) ?_ ?_ ?_
 ·exact aU (lR rfl) (aU (lR rfl) (aU (lR rfl) (aU (lI rfl) (aU (lI rfl) aM))))
 ·exact aU (kR rfl) (aU (kR rfl) aM)
 refine W.loop_ind (α:=Nat) (fun x=>l.length - x) 2 (fun x=>up (up (up (up (up mt 3 (some (.own 0 0))) 4 (some (.own 1 0))) 8 (some (.isl (bdsC l) l.length))) 9 (some (.base (.int .i64 (l.length:Int))))) 10 (some (.base (.int .i64 (x:Int))))) (fun x=>up (up mt 0 (some (adC a))) 1 (some (bdC zBd))) (fun x=>x≤l.length∧boundF l a=boundF (l.drop x) a) 0 (show 0≤l.length∧boundF l a=boundF (l.drop 0) a from ⟨Nat.zero_le _,rfl⟩) ?_
 rintro i hIA ihA
 try (dsimp only at hIA)
 try dsimp only
 obtain ⟨hi,hw⟩:=hIA
 by_cases hc:i < l.length
 ·have g1:decide ((i:Int) < (l.length:Int))=true:=decide_eq_true (by omega)
  have h6:=hm _ (List.getElem_mem hc)
  have hbt:=bds_tk hm hc
  have hdr:boundF (l.drop i) a=if eqA l[i].ad a then some l[i] else boundF (l.drop (i + 1)) a:=by
   rw [List.drop_eq_getElem_cons hc];rfl
  generalize l[i]=b at *
  obtain ⟨ad,mc,port⟩:=b
  dsimp only at h6 hdr
  match mc,h6,hbt,hdr with
  | [a0,a1,a2,a3,a4,a5],_,hbt,hdr =>
   refine Wq<|qW 14 15 rfl<|qK rfl<|Nl<|Wq<|Wt rfl ‹_›<|Wu<|Wq<|Wb<|Wq<|qW 19 23 rfl<|qJ rfl rfl ty31 ty161 (by omega)<|Od rfl rfl (Lg rfl rfl ty161 rfl hbt)<|qB rfl ty161<|qS rfl ty161 (Sl rfl) rfl<|Nl ?_
   cases he:eqA ad a
   ·
    rw [he] at hdr
    refine Wq<|qW 27 31 rfl<|qF rfl ty161 rfl<|qG rfl ty54 rfl (Tl rfl)<|qG rfl ty54 rfl (Tl rfl)<|Od rfl rfl (LO.eql_ad ad a rfl rfl rfl)<|Nl<|Wo rfl ‹_›<|Wu<|qW 42 44 rfl<|qZ rfl (iW _ (by omega))<|qM rfl<|Nl<|WL.rename [(0,0),(1,1)] 2 (by decide) ?_ ?_ (ihA (i + 1) (show l.length - (i + 1) < l.length - i from by omega) (show (i + 1)≤l.length∧boundF l a=boundF (l.drop (i + 1)) a from ⟨by omega,hw.trans hdr⟩))
    ·exact aU (lR rfl) (aU (lR rfl) (aU (lR rfl) (aU (lI rfl) (aU (lI rfl) aM))))
    ·exact aU (kR rfl) (aU (kR rfl) aM)
   ·
    rw [he] at hdr
    refine Wq<|qW 27 31 rfl<|qF rfl ty161 rfl<|qG rfl ty54 rfl (Tl rfl)<|qG rfl ty54 rfl (Tl rfl)<|Od rfl rfl (LO.eql_ad ad a rfl rfl rfl)<|Nl<|Wt rfl ‹_›<|Wq<|qW 35 38 rfl<|qG rfl ty161 rfl (Tl rfl)<|qS rfl ty161 (Sl rfl) rfl<|qA rfl<|Nl<|Wz ⟨.inl rfl,_,mt,(Rc (Ra0 rfl rfl ty161 rfl (Tl rfl)) (Rc (Rt rfl) Rv)),aM,?_⟩
    exact ⟨by unfold boundV;rw [hw,hdr];rfl,rfl⟩
 ·have g1:decide ((i:Int) < (l.length:Int))=false:=decide_eq_false (by omega)
  refine Wq<|qW 14 15 rfl<|qK rfl<|Nl<|Wq<|Wo rfl ‹_›<|Wx ?_
  obtain rfl:i=l.length:=by omega
  refine Wq<|qW 48 51 rfl<|Od rfl rfl (Bs rfl ty161 .nil)<|qS rfl ty161 (Sl rfl) rfl<|qA rfl<|Nl<|Wz ⟨.inl rfl,_,mt,(Rc (Ra0 rfl rfl ty161 rfl (Tl rfl)) (Rc (Rt rfl) Rv)),aM,?_⟩
  exact ⟨by unfold boundV;rw [hw,List.drop_length];rfl,rfl⟩
theorem grpX_any (f:Fr) (hf:FrX f):AFn Tryz.prog 23 0 [.agg (bytesC f.dst)] mt (.base (.bool (grpE f.dst))) mt:=by
 have h6:=hf.ok.d6
 have hB:=hf.dB
 obtain ⟨p0,p1,p2,p3,p4,p5,e⟩:=six_of h6
 rw [e] at hB ⊢
 have:=grpM_any [p0,p1,p2,p3,p4,p5] rfl hB
 rwa [grp_eq (hB p0 (by simp))] at this
set_option maxHeartbeats 2000000 in
theorem asksX_any (f:Fr) (hx:FrX f):AFn Tryz.prog 105 0 [.agg (frC f)] mt (asksV (asksF f)) mt:=by
 refine AFn.eq Tryz.func105 rfl rfl (Nat.le_of_ble_eq_true rfl) ?_
 have hgr:=grpX_any f hx
 obtain ⟨h1,h2,hB,hl⟩:=hx.ok
 have harp:=decA_any f.data hB
 have hpd:=rdec_any f.data hB (by omega)
 obtain ⟨q1,q2,q3⟩:=dcP_ok f.data hB
 have hnd:=decX_any (dcP f.data) q1 q2.1 q2.2 q3.1 q3.2
 have hln:=decR_len6 (dcP f.data)
 unfold asksF
 obtain ⟨dst,src,vl,ty,data⟩:=f
 clear hx
 dsimp only at *
 obtain ⟨d0,d1,d2,d3,d4,d5,rfl⟩:=six_of h1
 obtain ⟨s0,s1,s2,s3,s4,s5,rfl⟩:=six_of h2
 obtain ⟨n,hn⟩:∃ n,data.length=n:=⟨_,rfl⟩
 have hfm:arpE data=0→(arpOf data).fm.length=6∧(arpOf data).tm.length=6:=fun h=>by
  have:28≤data.length:=by
   rcases Nat.lt_or_ge data.length 28 with h3|h3
   ·unfold arpE at h;rw [if_pos h3] at h;cases h
   ·exact h3
  unfold arpOf
  constructor
  ·show ((data.drop 8).take 6).length=6
   rw [List.length_take,List.length_drop];omega
  ·show ((data.drop 18).take 6).length=6
   rw [List.length_take,List.length_drop];omega
 unfold arpR at harp
 generalize arpOf data=A at *
 generalize arpE data=ae at *
 generalize dcP data=P at *
 generalize dcE data=pe at *
 unfold decV at hnd
 generalize decR P=N at *
 obtain ⟨N,ne⟩:=N
 dsimp only at *
 refine Wq<|qW 0 3 rfl<|qC rfl<|qB rfl ty54<|qA rfl<|Nl<|Wq<|Wb ?_
 by_cases hb1:(ty == 2054)=true∧decide (([d0,d1,d2,d3,d4,d5]:List Int)=bcM)=true
 case' pos =>
  obtain ⟨k1,k2⟩:=hb1
  have ek:(ty == 2054 && decide (([d0,d1,d2,d3,d4,d5]:List Int)=bcM))=true:=by rw [k1,k2];rfl
  rw [if_pos ek]
  refine Wq<|Wd 7 17 (by decide) rfl mixed rfl<|qF rfl ty26 rfl<|qL rfl ty3 rfl<|qE rfl<|qM rfl<|gF rfl ‹_› ty26 rfl<|gG rfl ‹_› ty23 rfl (Tl rfl)<|gY rfl ‹_› (bcX_any) fok39 rfl<|qU rfl ‹_› rfl (LO.eql_mac [d0,d1,d2,d3,d4,d5] bcM rfl rfl rfl rfl rfl)<|qT rfl ‹_› rfl<|qA rfl<|Nl ⟨by kernel_rfl,(Wt rfl ‹_› ?_)⟩
  by_cases he:ae=0
  case' pos =>
   subst he
   obtain ⟨l1,l2⟩:=hfm rfl
   rw [if_pos rfl] at harp ⊢
   obtain ⟨op,fm,fr,tm,tt⟩:=A
   dsimp only at l1 l2
   obtain ⟨m0,m1,m2,m3,m4,m5,rfl⟩:=six_of l1
   obtain ⟨n0,n1,n2,n3,n4,n5,rfl⟩:=six_of l2
   refine Wq<|qW 21 30 rfl<|qF rfl ty26 rfl<|qL rfl ty24 rfl<|qY rfl (harp) fok36 rfl<|qM rfl<|qX rfl<|qX rfl<|qB rfl ty78<|qS rfl ty78 (Sl rfl) rfl<|qA rfl<|Nl<|Wq<|qW 34 40 rfl<|qF rfl ty78 rfl<|qG rfl ty54 rfl (Tl rfl)<|qM rfl<|qE rfl<|qS rfl ty54 (Sl rfl) rfl<|qA rfl<|Nl<|Wz ⟨.inl rfl,_,mt,(Rc (Ra0 rfl rfl ty54 rfl (Tl rfl)) (Rc (Rt rfl) Rv)),aM,?_⟩
   exact ⟨rfl,rfl⟩
  case' neg =>
   have k3:(ae == 0)=false:=by simpa using he
   rw [if_neg he] at harp ⊢
   refine Wq<|qW 21 30 rfl<|qF rfl ty26 rfl<|qL rfl ty24 rfl<|qY rfl (harp) fok36 rfl<|qM rfl<|qX rfl<|qX rfl<|qB rfl ty78<|qS rfl ty78 (Sl rfl) rfl<|qA rfl<|Nl<|Wq<|qW 34 40 rfl<|qF rfl ty78 rfl<|qG rfl ty54 rfl (Tl rfl)<|qM rfl<|qE rfl<|qS rfl ty54 (Sl rfl) rfl<|qA rfl<|Nl<|Wz ⟨.inl rfl,_,mt,(Rc (Ra0 rfl rfl ty54 rfl (Tl rfl)) (Rc (Rt rfl) Rv)),aM,?_⟩
   exact ⟨by rw [k3];rfl,rfl⟩
 case' neg =>
  have ek:(ty == 2054 && decide (([d0,d1,d2,d3,d4,d5]:List Int)=bcM))=false:=by
   rw [Bool.and_eq_false_iff]
   rcases Decidable.not_and_iff_or_not.1 hb1 with h|h
   ·exact .inl (by simpa using h)
   ·exact .inr (by simpa using h)
  rw [if_neg (by rw [ek];decide)]
  cases k1:(ty == 2054)
  case' true =>
   have k2:decide (([d0,d1,d2,d3,d4,d5]:List Int)=bcM)=false:=by rw [k1] at ek;exact ek
   refine Wq<|Wd 7 17 (by decide) rfl mixed rfl<|qF rfl ty26 rfl<|qL rfl ty3 rfl<|qE rfl<|qM rfl<|gF rfl ‹_› ty26 rfl<|gG rfl ‹_› ty23 rfl (Tl rfl)<|gY rfl ‹_› (bcX_any) fok39 rfl<|qU rfl ‹_› rfl (LO.eql_mac [d0,d1,d2,d3,d4,d5] bcM rfl rfl rfl rfl rfl)<|qT rfl ‹_› rfl<|qA rfl<|Nl ⟨by kernel_rfl,(Wo rfl ‹_› ?_)⟩
  case' false =>
   refine Wq<|Wd 7 17 (by decide) rfl mixed rfl<|qF rfl ty26 rfl<|qL rfl ty3 rfl<|qE rfl<|qM rfl<|qD rfl ‹_› rfl<|qD rfl ‹_› rfl<|qD rfl ‹_› rfl<|qD rfl ‹_› rfl<|qP rfl ‹_› rfl<|qA rfl<|Nl ⟨by kernel_rfl,(Wo rfl rfl ?_)⟩
  all_goals
   clear ek hb1
   obtain ⟨g,hg⟩:∃ g,grpE [d0,d1,d2,d3,d4,d5]=g:=⟨_,rfl⟩
   rw [hg] at hgr ⊢
   cases k3:(ty == 34525)
   case' false =>
    rw [if_neg (by simp)]
    repeat (refine Wq ?_)
    refine qW 44 53 rfl<|qF rfl ty26 rfl<|qL rfl ty3 rfl<|qE rfl<|qM rfl<|qD rfl ‹_› rfl<|qD rfl ‹_› rfl<|qD rfl ‹_› rfl<|qP rfl ‹_› rfl<|qA rfl<|Nl<|Wo rfl rfl<|Wu ?_
    repeat (refine Wq ?_)
    refine qW 121 124 rfl<|Od rfl rfl (Bs rfl ty54 .nil)<|qS rfl ty54 (Sl rfl) rfl<|qA rfl<|Nl<|Wz ⟨.inl rfl,_,mt,(Rc (Ra0 rfl rfl ty54 rfl (Tl rfl)) (Rc (Rt rfl) Rv)),aM,?_⟩
    exact ⟨rfl,rfl⟩
   case' true =>
    cases g
    case' false =>
     rw [if_neg (by decide)]
     repeat (refine Wq ?_)
     refine qW 44 53 rfl<|qF rfl ty26 rfl<|qL rfl ty3 rfl<|qE rfl<|qM rfl<|gF rfl ‹_› ty26 rfl<|gG rfl ‹_› ty23 rfl (Tl rfl)<|gY rfl ‹_› (hgr) fok23 rfl<|qT rfl ‹_› rfl<|qA rfl<|Nl<|Wo rfl rfl<|Wu ?_
     repeat (refine Wq ?_)
     refine qW 121 124 rfl<|Od rfl rfl (Bs rfl ty54 .nil)<|qS rfl ty54 (Sl rfl) rfl<|qA rfl<|Nl<|Wz ⟨.inl rfl,_,mt,(Rc (Ra0 rfl rfl ty54 rfl (Tl rfl)) (Rc (Rt rfl) Rv)),aM,?_⟩
     exact ⟨rfl,rfl⟩
    case' true =>
     rw [if_pos (by decide)]
     repeat (refine Wq ?_)
     refine qW 44 53 rfl<|qF rfl ty26 rfl<|qL rfl ty3 rfl<|qE rfl<|qM rfl<|gF rfl ‹_› ty26 rfl<|gG rfl ‹_› ty23 rfl (Tl rfl)<|gY rfl ‹_› (hgr) fok23 rfl<|qT rfl ‹_› rfl<|qA rfl<|Nl<|Wt rfl rfl ?_
     by_cases he:pe=0
     case' neg =>
      have k4:(pe != 0)=true:=by simpa using he
      rw [if_neg he,rdV_bad he] at *
      repeat (refine Wq ?_)
      refine qW 57 66 rfl<|qF rfl ty26 rfl<|qL rfl ty24 rfl<|qY rfl (hpd) fok37 rfl<|qM rfl<|qX rfl<|qX rfl<|qB rfl ty83<|qS rfl ty83 (Sl rfl) rfl<|qA rfl<|Nl ?_
      repeat (refine Wq ?_)
      refine qW 70 72 rfl<|qM rfl<|qN rfl<|Nl<|Wt rfl ‹_› ?_
      repeat (refine Wq ?_)
      refine qW 76 79 rfl<|Od rfl rfl (Bs rfl ty54 .nil)<|qS rfl ty54 (Sl rfl) rfl<|qA rfl<|Nl<|Wz ⟨.inl rfl,_,mt,(Rc (Ra0 rfl rfl ty54 rfl (Tl rfl)) (Rc (Rt rfl) Rv)),aM,?_⟩
      exact ⟨rfl,rfl⟩
     case' pos =>
      subst he
      rw [if_pos rfl]
      rw [rdV_ok] at hpd
      repeat (refine Wq ?_)
      refine qW 57 66 rfl<|qF rfl ty26 rfl<|qL rfl ty24 rfl<|qY rfl (hpd) fok37 rfl<|qM rfl<|qX rfl<|qX rfl<|qB rfl ty83<|qS rfl ty83 (Sl rfl) rfl<|qA rfl<|Nl ?_
      repeat (refine Wq ?_)
      refine qW 70 72 rfl<|qM rfl<|qN rfl<|Nl<|Wo rfl (rfl)<|Wu ?_
      repeat (refine Wq ?_)
      refine qW 83 91 rfl<|qG rfl ty83 rfl (Tl rfl) ?_
      obtain ⟨k,fl,tg,has,ln⟩:=N
      dsimp only at hln hnd ⊢
      obtain ⟨e0,e1,e2,e3,e4,e5,rfl⟩:=six_of hln
      refine qY rfl (hnd) fok38 rfl<|qM rfl<|qX rfl<|qX rfl<|qB rfl ty87<|qS rfl ty87 (Sl rfl) rfl<|qA rfl<|Nl ?_
      cases k5:(ne != 0)
      case' true =>
       have hc:¬ (ne=0∧k=135):=fun h=>by rw [h.1] at k5;cases k5
       rw [if_neg hc]
       repeat (refine Wq ?_)
       refine qW 95 102 rfl<|qM rfl<|qN rfl<|qM rfl<|qD rfl ‹_› rfl<|qD rfl ‹_› rfl<|qD rfl ‹_› rfl<|qT rfl ‹_› rfl<|Nl<|Wt rfl rfl ?_
       repeat (refine Wq ?_)
       refine qW 106 109 rfl<|Od rfl rfl (Bs rfl ty54 .nil)<|qS rfl ty54 (Sl rfl) rfl<|qA rfl<|Nl<|Wz ⟨.inl rfl,_,mt,(Rc (Ra0 rfl rfl ty54 rfl (Tl rfl)) (Rc (Rt rfl) Rv)),aM,?_⟩
       exact ⟨rfl,rfl⟩
      case' false =>
       have k5':ne=0:=by simpa using k5
       cases k6:(k != 135)
       case' true =>
        have hc:¬ (ne=0∧k=135):=fun h=>by rw [h.2] at k6;cases k6
        rw [if_neg hc]
        repeat (refine Wq ?_)
        refine qW 95 102 rfl<|qM rfl<|qN rfl<|qM rfl<|gF rfl ‹_› ty87 rfl<|gL rfl ‹_› ty3 rfl<|gN rfl ‹_›<|qP rfl ‹_› rfl<|Nl<|Wt rfl ‹_› ?_
        repeat (refine Wq ?_)
        refine qW 106 109 rfl<|Od rfl rfl (Bs rfl ty54 .nil)<|qS rfl ty54 (Sl rfl) rfl<|qA rfl<|Nl<|Wz ⟨.inl rfl,_,mt,(Rc (Ra0 rfl rfl ty54 rfl (Tl rfl)) (Rc (Rt rfl) Rv)),aM,?_⟩
        exact ⟨rfl,rfl⟩
       case' false =>
        have k6':k=135:=by simpa using k6
        rw [if_pos ⟨k5',k6'⟩]
        repeat (refine Wq ?_)
        refine qW 95 102 rfl<|qM rfl<|qN rfl<|qM rfl<|gF rfl ‹_› ty87 rfl<|gL rfl ‹_› ty3 rfl<|gN rfl ‹_›<|qP rfl ‹_› rfl<|Nl<|Wo rfl ‹_›<|Wu ?_
        repeat (refine Wq ?_)
        refine qW 113 117 rfl<|qF rfl ty87 rfl<|qG rfl ty54 rfl (Tl rfl)<|qS rfl ty54 (Sl rfl) rfl<|qA rfl<|Nl<|Wz ⟨.inl rfl,_,mt,(Rc (Ra0 rfl rfl ty54 rfl (Tl rfl)) (Rc (Rt rfl) Rv)),aM,?_⟩
        exact ⟨rfl,rfl⟩
set_option maxHeartbeats 2000000 in
theorem deliverX_any (rs:List Rl) (bs:List Bd) (fm:Int) (f:Fr) (ht:TablesOk rs bs) (hf:FrX f):AFn Tryz.prog 56 0 [.isl (rulesC rs) rs.length,.isl (bdsC bs) bs.length,.base (.int .i64 fm),.agg (frC f)] mt (dlvV (dlvF rs bs fm f)) mt:=by
 refine AFn.eq Tryz.func56 rfl rfl (Nat.le_of_ble_eq_true rfl) ?_
 have hak:=asksX_any f hf
 have hwh:=whereX_any rs f.dst hf.ok.d6 ht.rl ht.rm
 have hbo:=boundX_any bs (asksF f).1 ht.bl ht.bm
 have hbl:=boundP_len ht.bm (asksF f).1
 have hgr:=grpX_any f hf
 rw [whereV_eq] at hwh
 rw [boundV_eq] at hbo
 unfold dlvF
 obtain ⟨T,hT⟩:∃ T,tgtF rs bs f=T:=⟨_,rfl⟩
 rw [hT]
 unfold tgtF at hT
 generalize asksF f=ak at *
 generalize boundP bs ak.1=bp at *
 unfold asksV at hak
 obtain ⟨ad,ak⟩:=ak
 obtain ⟨⟨bad,bmac,bport⟩,bok⟩:=bp
 have hdl:=hf.ok.bl
 have d6:=hf.ok.d6
 have s6:=hf.ok.s6
 obtain ⟨dst,src,vl,ty,data⟩:=f
 clear hf
 dsimp only at *
 generalize whereP rs dst=wp at *
 obtain ⟨wport,wok⟩:=wp
 obtain ⟨d0,d1,d2,d3,d4,d5,rfl⟩:=six_of d6
 obtain ⟨s0,s1,s2,s3,s4,s5,rfl⟩:=six_of s6
 obtain ⟨m0,m1,m2,m3,m4,m5,rfl⟩:=six_of hbl
 obtain ⟨g,hg⟩:∃ g,grpE [d0,d1,d2,d3,d4,d5]=g:=⟨_,rfl⟩
 rw [hg] at hgr hT
 have hdz:(bytesC data).length=data.length * 1:=by rw [bytesC_len];omega
 unfold frC
 dsimp only
 refine Wq<|qW 0 4 rfl<|qC rfl<|qA rfl<|qB rfl ty26<|qA rfl<|Nl<|Wq<|qW 8 13 rfl<|qF rfl ty26 rfl<|qL rfl ty24 rfl<|Od rfl rfl (Lan rfl rfl (Ssi rfl rfl hdz) ty24 ty24 ty5 (by decide) (by omega) (by omega) (by decide))<|qF rfl ty26 rfl<|qS rfl ty24 (Sl rfl) rfl<|Nl<|Wv (q:=0) (j:=14) (r:=10) rfl rfl (by decide) rfl (bytes_tk rfl) (bytesC_pure _) (Sl rfl)<|Wq<|qW 17 19 rfl<|qA rfl<|qA rfl<|Nl ?_
 cases g
 case' false =>
  rw [if_neg (by decide)] at hT
  subst hT
  refine Wq<|Wq<|qW 23 26 rfl<|qF rfl ty26 rfl<|qG rfl ty23 rfl (Tl rfl)<|qY rfl (hgr) fok23 rfl<|Nl<|Wo rfl rfl<|qW 75 84 rfl<|qM rfl<|qF rfl ty26 rfl<|qG rfl ty23 rfl (Tl rfl)<|qY rfl (hwh) fok25 rfl<|qM rfl<|qX rfl<|qX rfl<|qA rfl<|qA rfl<|Nl ?_
  generalize wport=port at *
  generalize wok=ok at *
 case' true =>
  rw [if_pos rfl] at hT
  subst hT
  refine Wq<|Wq<|qW 23 26 rfl<|qF rfl ty26 rfl<|qG rfl ty23 rfl (Tl rfl)<|qY rfl (hgr) fok23 rfl<|Nl<|Wt rfl rfl<|Wq<|qW 30 38 rfl<|qG rfl ty26 rfl (Tl rfl)<|qY rfl (hak) fok105 rfl<|qM rfl<|qX rfl<|qX rfl<|qB rfl ty54<|qS rfl ty54 (Sl rfl) rfl<|qA rfl<|Nl<|Wq<|qW 42 51 rfl<|qM rfl<|qG rfl ty54 rfl (Tl rfl)<|qY rfl (hbo) fok106 rfl<|qM rfl<|qX rfl<|qX rfl<|qB rfl ty161<|qS rfl ty161 (Sl rfl) rfl<|qA rfl<|Nl ?_
  cases ak
  case' false =>
   refine Wq<|qW 55 63 rfl<|qF rfl ty161 rfl<|qL rfl ty3 rfl<|qM rfl<|qM rfl<|qD rfl rfl rfl<|qP rfl rfl rfl<|qA rfl<|qA rfl<|Nl<|qW 67 71 rfl<|qF rfl ty161 rfl<|qG rfl ty23 rfl (Tl rfl)<|qF rfl ty26 rfl<|qS rfl ty23 (Sl rfl) rfl<|Nl<|Wq<|Wq<|qW 88 95 rfl<|qM rfl<|qO rfl<|qM rfl<|qD rfl rfl rfl<|qD rfl rfl rfl<|qD rfl rfl rfl<|qT rfl rfl rfl<|Nl<|Wt rfl rfl<|Wq<|qW 99 103 rfl<|Od rfl rfl (Bs rfl ty26 .nil)<|qA rfl<|qS rfl ty26 (Sl rfl) rfl<|qA rfl<|Nl<|W.nilc (q:=2) (j:=14) rfl rfl (Sl rfl)<|Wz ⟨.inl rfl,_,mt,(Rc (Rt rfl) (Rc (Ra0 rfl rfl ty26 rfl (Tl rfl)) (Rc (Rt rfl) Rv))),aM,?_⟩
   exact ⟨rfl,rfl⟩
  case' true =>
   refine Wq<|qW 55 63 rfl<|qF rfl ty161 rfl<|qL rfl ty3 rfl<|qM rfl<|qM rfl<|gM rfl rfl<|qT rfl rfl rfl<|qA rfl<|qA rfl<|Nl<|qW 67 71 rfl<|qF rfl ty161 rfl<|qG rfl ty23 rfl (Tl rfl)<|qF rfl ty26 rfl<|qS rfl ty23 (Sl rfl) rfl<|Nl ?_
   generalize bport=port at *
   generalize bok=ok at *
 all_goals
  dsimp only [Bool.true_and]
  cases ok
  case' false =>
   rw [if_pos (.inl rfl)]
   repeat (refine Wq ?_)
   refine qW 88 95 rfl<|qM rfl<|qO rfl<|qM rfl<|qD rfl rfl rfl<|qD rfl rfl rfl<|qD rfl rfl rfl<|qT rfl rfl rfl<|Nl<|Wt rfl rfl ?_
   repeat (refine Wq ?_)
   refine qW 99 103 rfl<|Od rfl rfl (Bs rfl ty26 .nil)<|qA rfl<|qS rfl ty26 (Sl rfl) rfl<|qA rfl<|Nl<|W.nilc (q:=2) (j:=14) rfl rfl (Sl rfl)<|Wz ⟨.inl rfl,_,mt,(Rc (Rt rfl) (Rc (Ra0 rfl rfl ty26 rfl (Tl rfl)) (Rc (Rt rfl) Rv))),aM,?_⟩
   exact ⟨rfl,rfl⟩
  case' true =>
   cases k1:(port == fm)
   case' true =>
    rw [if_pos (.inr (by simpa using k1))]
    repeat (refine Wq ?_)
    refine qW 88 95 rfl<|qM rfl<|qO rfl<|qM rfl<|gM rfl rfl<|gM rfl rfl<|gE rfl rfl<|qP rfl rfl rfl<|Nl<|Wt rfl ‹_› ?_
    repeat (refine Wq ?_)
    refine qW 99 103 rfl<|Od rfl rfl (Bs rfl ty26 .nil)<|qA rfl<|qS rfl ty26 (Sl rfl) rfl<|qA rfl<|Nl<|W.nilc (q:=2) (j:=14) rfl rfl (Sl rfl)<|Wz ⟨.inl rfl,_,mt,(Rc (Rt rfl) (Rc (Ra0 rfl rfl ty26 rfl (Tl rfl)) (Rc (Rt rfl) Rv))),aM,?_⟩
    exact ⟨rfl,rfl⟩
   case' false =>
    rw [if_neg (by rintro (h | h); · cases h
                   · rw [h] at k1; simp at k1)]
    repeat (refine Wq ?_)
    refine qW 88 95 rfl<|qM rfl<|qO rfl<|qM rfl<|gM rfl rfl<|gM rfl rfl<|gE rfl rfl<|qP rfl rfl rfl<|Nl<|Wo rfl ‹_›<|Wu ?_
    repeat (refine Wq ?_)
    refine Wd 107 112 (by decide) rfl mixed rfl<|qM rfl<|qG rfl ty26 rfl (Tl rfl)<|qA rfl<|qS rfl ty26 (Sl rfl) rfl<|qA rfl<|Nl ⟨by kernel_rfl,(Wz ⟨.inl rfl,_,mt,(Rc (Rt rfl) (Rc (Ra0 rfl rfl ty26 rfl (Tl rfl)) (Rc (Rt rfl) Rv))),aM,?_⟩)⟩
    exact ⟨rfl,rfl⟩
theorem cloneAE (A:Option Addr) (cap:Nat):AFn Tryz.prog 139 0 [.base (.slice A 0 cap)] mt (.isl [] 0) mt:=by
 refine AFn.eq Tryz.func139 rfl rfl (Nat.le_of_ble_eq_true rfl)<|Wq<|qW 0 1 rfl<|qA rfl<|Nl ?_
 cases A with
 | none =>
  refine Wq<|Wq<|qW 5 7 rfl<|qM rfl<|Od rfl rfl (LO.eqNilB rfl rfl rfl ty37)<|Nl<|Wt rfl rfl<|Wq<|qW 11 12 rfl<|qA rfl<|Nl<|W.nilt (t:=2) rfl<|Wz ⟨.inl rfl,_,mt,Rc (Rt rfl) (Rv),aM,?_⟩
  exact ⟨rfl,rfl⟩
 | some A =>
  refine Wq<|Wq<|qW 5 7 rfl<|qM rfl<|Od rfl rfl (LO.eqNilB rfl rfl rfl ty37)<|Nl<|Wo rfl rfl<|Wu<|Wq<|qW 16 20 rfl<|Od rfl rfl (LO.buildSlice rfl ty37 ty54 (by decide) (by decide) .nil)<|Od rfl rfl (LO.moveE rfl rfl)<|Od rfl rfl (Lap rfl rfl (Ssi rfl rfl rfl) rfl (Tl rfl) ty37 ty37 ty54 (by decide) (by omega) (by omega) (by decide))<|qA rfl<|Nl<|Wy (t:=2) rfl rfl (Tl rfl) rfl<|Wz ⟨.inl rfl,_,mt,Rc (Rt rfl) (Rv),aM,?_⟩
  exact ⟨rfl,rfl⟩
theorem adsC_len (l:List Ad):(adsC l).length=l.length * 3:=flatLen (c:=adC) (fun _=>rfl) l
theorem cloneA_any (b:List Ad) (hl:b.length≤1000):AFn Tryz.prog 139 0 [.isl (adsC b) b.length] mt (.isl (adsC b) b.length) mt:=by
 rcases Nat.eq_zero_or_pos b.length with h|h
 ·rw [List.eq_nil_of_length_eq_zero h]
  exact .empty0 cloneAE
 ·refine AFn.eq Tryz.func139 rfl rfl (Nat.le_of_ble_eq_true rfl) ?_
  have hz:=adsC_len b
  refine Wq<|qW 0 1 rfl<|qA rfl<|Nl<|Wq<|Wq<|qW 5 7 rfl<|qM rfl<|Od rfl rfl (LO.eqNilI rfl rfl rfl h rfl ty37)<|Nl<|Wo rfl rfl<|Wu<|Wq<|qW 16 20 rfl<|Od rfl rfl (LO.buildSlice rfl ty37 ty54 (by decide) (by decide) .nil)<|qM rfl<|Od rfl rfl (Lap rfl rfl (Ssi rfl rfl hz) rfl (Tl rfl) ty37 ty37 ty54 (by decide) (by omega) (by omega) (by decide))<|qA rfl<|Nl ?_
  rw [List.nil_append,show 0 + b.length=b.length from Nat.zero_add _]
  refine Wy (t:=2) rfl rfl (ads_all rfl) (adsC_pure _)<|Wz ⟨.inl rfl,_,mt,Rc (Rt rfl) (Rv),aM,?_⟩
  exact ⟨rfl,rfl⟩
theorem cloneM_any (b:List (List Int)) (h6:∀ m,m∈b→m.length=6) (h:0 < b.length) (hl:b.length≤1000):AFn Tryz.prog 138 0 [.isl (macsC b) b.length] mt (.isl (macsC b) b.length) mt:=by
 refine AFn.eq Tryz.func138 rfl rfl (Nat.le_of_ble_eq_true rfl) ?_
 have hz:=macsC_len h6
 refine Wq<|qW 0 1 rfl<|qA rfl<|Nl<|Wq<|Wq<|qW 5 7 rfl<|qM rfl<|Od rfl rfl (LO.eqNilI rfl rfl rfl h rfl ty36)<|Nl<|Wo rfl rfl<|Wu<|Wq<|qW 16 20 rfl<|Od rfl rfl (LO.buildSlice rfl ty36 ty23 (by decide) (by decide) .nil)<|qM rfl<|Od rfl rfl (Lap rfl rfl (Ssi rfl rfl hz) rfl (Tl rfl) ty36 ty36 ty23 (by decide) (by omega) (by omega) (by decide))<|qA rfl<|Nl ?_
 rw [List.nil_append,show 0 + b.length=b.length from Nat.zero_add _]
 refine Wy (t:=2) rfl rfl (macs_all h6) (macsC_pure _)<|Wz ⟨.inl rfl,_,mt,Rc (Rt rfl) (Rv),aM,?_⟩
 exact ⟨rfl,rfl⟩
theorem owned_any (r:Rl) (hr:RlOk r):AFn Tryz.prog 102 0 [.agg (ruleC r)] mt (.agg (ruleC r)) mt:=by
 refine AFn.eq Tryz.func102 rfl rfl (Nat.le_of_ble_eq_true rfl) ?_
 have c1:=cloneM_any r.macs (fun m hm=>(hr.macs m hm).1) (by have:=hr.nm;omega) (by have:=hr.nm;omega)
 have c2:=cloneA_any r.v4 hr.n4
 have c3:=cloneA_any r.v6 hr.n6
 refine Wq<|qW 0 2 rfl<|qC rfl<|qB rfl ty39<|Nl<|Wq<|Wd 6 21 (by decide) rfl mixed rfl<|qF rfl ty39 rfl<|qL rfl ty36 rfl<|qY rfl (c1) fok138 rfl<|qF rfl ty39 rfl<|qL rfl ty37 rfl<|qY rfl (c2) fok139 rfl<|qF rfl ty39 rfl<|qL rfl ty37 rfl<|qY rfl (c3) fok139 rfl<|qF rfl ty39 rfl<|qS rfl ty36 (Sl rfl) rfl<|qF rfl ty39 rfl<|qS rfl ty37 (Sl rfl) rfl<|qF rfl ty39 rfl<|qS rfl ty37 (Sl rfl) rfl<|Nl ⟨by kernel_rfl,(Wq<|qW 25 27 rfl<|qG rfl ty39 rfl (Tl rfl)<|qS rfl ty39 (Sl rfl) rfl<|Nl<|Wz ⟨.inl rfl,_,mt,(Rc (Ra0 rfl rfl ty39 rfl (Tl rfl)) Rv),aM,?_⟩)⟩
 exact ⟨rfl,rfl⟩
def ruleF:List Rl→Int→Option Rl
 | [],_=>none
 | r::l,p=>if r.port == p then some r else ruleF l p
theorem rule_first:∀ {ps:List Prt} {g:Int→Int} {p:Prt},p∈ps→(∀ q,q∈ps→q.id=p.id→q=p)→ruleF (ps.map (ruleOf g 2 3)) p.id=some (ruleOf g 2 3 p):=by
 intro ps
 induction ps with
 | nil=>intro g p h;cases h
 | cons x ps ih =>
  intro g p h hu
  show (if (ruleOf g 2 3 x).port == p.id then some (ruleOf g 2 3 x) else ruleF (ps.map (ruleOf g 2 3)) p.id)=_
  by_cases e:x.id=p.id
  ·rw [if_pos (by simpa [ruleOf] using e),hu x (by simp) e]
  ·rw [if_neg (by simpa [ruleOf] using e)]
   rcases List.mem_cons.1 h with rfl|h
   ·exact absurd rfl e
   ·exact ih h fun q hq=>hu q (by simp [hq])
theorem DbFine.ids {l:List Int} {d:Db} (h:DbFine l d) {p q:Prt} (hp:p∈allP d) (hq:q∈allP d) (e:q.id=p.id):q=p:=by
 obtain ⟨i,hi,rfl⟩:=List.getElem_of_mem hp
 obtain ⟨j,hj,rfl⟩:=List.getElem_of_mem hq
 have h1:=(h.good i hi).id
 have h2:=(h.good j hj).id
 obtain rfl:i=j:=by omega
 rfl
theorem where_some:∀ {ps:List Prt} {g:Int→Int} {m:List Int} {r:Rl},whereF (ps.map (ruleOf g 2 3)) m=some r→∃ p,p∈ps∧r=ruleOf g 2 3 p∧m∈p.macs:=by
 intro ps
 induction ps with
 | nil=>intro g m r h;cases h
 | cons x ps ih =>
  intro g m r h
  rw [show whereF ((x::ps).map (ruleOf g 2 3)) m=if m∈x.macs then some (ruleOf g 2 3 x) else whereF (ps.map (ruleOf g 2 3)) m from rfl] at h
  split at h
  ·rename_i hm
   injection h with h
   exact ⟨x,by simp,h.symm,hm⟩
  ·obtain ⟨p,h1,h2,h3⟩:=ih h
   exact ⟨p,by simp [h1],h2,h3⟩
theorem DbFine.reach {l:List Int} {d:Db} (h:DbFine l d) {g:Int→Int} {bs:List Bd} (hp:List.Perm bs (bdsOf (allP d))) {f:Fr} (ho:(tgtF ((allP d).map (ruleOf g 2 3)) bs f).2.2=true) :
 ∃ p,p∈allP d∧(tgtF ((allP d).map (ruleOf g 2 3)) bs f).1=p.id∧(tgtF ((allP d).map (ruleOf g 2 3)) bs f).2.1∈p.macs∧((grpE f.dst=false∧(tgtF ((allP d).map (ruleOf g 2 3)) bs f).2.1=f.dst)∨(grpE f.dst=true∧(asksF f).2=true∧(asksF f).1∈ad1 p.v4++ad1 p.v6)):=by
 have hl:=h.len
 unfold tgtF at ho ⊢
 cases hg:grpE f.dst
 ·rw [hg,if_neg (by decide)] at ho
  rw [if_neg (by decide)]
  unfold whereP at ho ⊢
  cases hw:whereF ((allP d).map (ruleOf g 2 3)) f.dst with
  | none=>rw [hw] at ho;cases ho
  | some r =>
   obtain ⟨p,h1,h2,h3⟩:=where_some hw
   exact ⟨p,h1,by rw [h2];rfl,h3,.inl ⟨rfl,rfl⟩⟩
 ·rw [hg,if_pos rfl] at ho
  rw [if_pos rfl]
  unfold boundP at ho ⊢
  cases hb:boundF bs (asksF f).1 with
  | none=>rw [hb] at ho;simp at ho
  | some b =>
   rw [hb] at ho
   obtain ⟨h1,h2⟩:=boundF_mem hb
   obtain ⟨q,h3,h4⟩:=List.mem_flatMap.1 (hp.mem_iff.1 h1)
   obtain ⟨c,h5,rfl⟩:=List.mem_map.1 h4
   dsimp only at h2 ho ⊢
   obtain ⟨i,hi,rfl⟩:=List.getElem_of_mem h3
   exact ⟨_,h3,rfl,(macOf_mem (h.good i hi) (by omega) (by omega)).1,.inr ⟨rfl,by simpa using ho,by rw [← h2];exact h5⟩⟩
theorem andNotM (x j:Nat) (hx:x < 2 ^ 64) (hj:j≤64):bitV .andNot .u64 (x:Int) ((2 ^ j - 1:Nat):Int)=((x / 2 ^ j * 2 ^ j:Nat):Int):=by
 have e1:(BitVec.ofInt 64 (x:Int)).toNat=x:=by rw [BitVec.ofInt_natCast,BitVec.toNat_ofNat];exact Nat.mod_eq_of_lt hx
 have hm:2 ^ j≤2 ^ 64:=Nat.pow_le_pow_right (by decide) hj
 have e2:(BitVec.ofInt 64 ((2 ^ j - 1:Nat):Int)).toNat=2 ^ j - 1:=by rw [BitVec.ofInt_natCast,BitVec.toNat_ofNat];exact Nat.mod_eq_of_lt (by have:=Nat.two_pow_pos j;omega)
 have key:(BitVec.ofInt 64 (x:Int) &&& ~~~BitVec.ofInt 64 ((2 ^ j - 1:Nat):Int)).toNat=x / 2 ^ j * 2 ^ j:=by
  refine Nat.eq_of_testBit_eq fun i=>?_
  rw [← Nat.shiftRight_eq_div_pow,← Nat.shiftLeft_eq,Nat.testBit_shiftLeft,Nat.testBit_shiftRight]
  rw [BitVec.testBit_toNat,BitVec.getLsbD_and,BitVec.getLsbD_not,← BitVec.testBit_toNat,← BitVec.testBit_toNat,e1,e2,Nat.testBit_two_pow_sub_one]
  by_cases h1:j≤i
  ·rw [show j + (i - j)=i from by omega]
   by_cases h2:i < 64
   ·simp [h1,h2]
   ·rw [Nat.testBit_lt_two_pow (Nat.lt_of_lt_of_le hx (Nat.pow_le_pow_right (by decide) (by omega)))];simp
  ·simp [h1];omega
 show IntKind.u64.wrap ((BitVec.ofInt 64 (x:Int) &&& ~~~BitVec.ofInt 64 ((2 ^ j - 1:Nat):Int)).toNat:Int)=_
 rw [key,IntKind.wrap_u64]
 have:=Nat.div_mul_le_self x (2 ^ j)
 omega
theorem andNot8 {x:Int} (h:U64 x):bitV .andNot .u64 x 255=x / 256 * 256:=by
 obtain ⟨n,rfl⟩:=Int.eq_ofNat_of_zero_le h.1
 have:=andNotM n 8 (by have:=h.2;omega) (by decide)
 simpa using this
theorem andNot0 {x:Int} (h:U64 x):bitV .andNot .u64 x 0=x:=by
 obtain ⟨n,rfl⟩:=Int.eq_ofNat_of_zero_le h.1
 have:=andNotM n 0 (by have:=h.2;omega) (by decide)
 simpa using this
theorem andNot64 {x:Int} (h:U64 x):bitV .andNot .u64 x 18446744073709551615=0:=by
 obtain ⟨n,rfl⟩:=Int.eq_ofNat_of_zero_le h.1
 have:=andNotM n 64 (by have:=h.2;omega) (by decide)
 have e:n / 2 ^ 64=0:=Nat.div_eq_of_lt (by have:=h.2;omega)
 rw [e] at this
 simpa using this
def in4 (a:Ad):Bool:=decide (a.lo / 256=12582914)
def in6 (a:Ad):Bool:=decide (a.hi=2306139568115548160)
theorem clr_byte:∀ x:Fin 256,(List.range' 0 8).foldl (fun (z:Int) i=>bitV .andNot .u8 z (bitAt i)) (x.val:Int)=0:=by decide +kernel
theorem chgs_add (op:BinOp) (l:List Int) (n a b:Nat):chgs op l n (a + b)=chgs op (chgs op l n a) (n + a) b:=by
 unfold chgs
 rw [List.range'_append_1.symm,List.foldl_append]
theorem chgs_byte {l:List Int} (hB:IsB l) {k:Nat} (hk:k < l.length):chgs .andNot l (8 * k) 8=l.set k 0:=by
 have hx:=hB.at k
 have h0:=clr_byte ⟨(gB l k).toNat,by omega⟩
 have e:(((gB l k).toNat:Nat):Int)=gB l k:=by omega
 dsimp only at h0
 rw [e] at h0
 have gen:∀ (m:Nat),m≤8→chgs .andNot l (8 * k) m=l.set k ((List.range' 0 m).foldl (fun (z:Int) i=>bitV .andNot .u8 z (bitAt i)) (gB l k)):=by
  intro m
  induction m with
  | zero=>intro _;simp [chgs,gB,hk]
  | succ m ih =>
   intro hm
   rw [chgs_snoc,ih (by omega),List.range'_concat,List.foldl_append]
   unfold chgL
   have e1:(8 * k + m) / 8=k:=by omega
   have e2:bitAt (8 * k + m)=bitAt (0 + 1 * m):=by
    unfold bitAt
    rw [show ((8 * k + m:Nat):Int) % 8=((0 + 1 * m:Nat):Int) % 8 from by omega]
   rw [e1,e2,List.set_set]
   congr 1
   simp [gB,hk]
 rw [gen 8 (by decide),h0]
theorem in4_eq {a:Ad} (h6:a.v6=false) (hv:validA a.v6 a.hi a.lo=true) (h1:U64 a.hi) (h2:U64 a.lo):eqPre (mkP a 24) lan4=in4 a:=by
 have hfb:=fb_addrB hv h1 h2
 have hl:addrL a=addrB a.v6 a.hi a.lo:=rfl
 have hB:IsB (addrL a):=by rw [hl];exact beN_isB _ _
 rw [← hl] at hfb
 have hlen:(addrL a).length=4:=by rw [addrL_len,h6];rfl
 have hm:mkL .andNot a 24=(addrL a).set 3 0:=by
  unfold mkL
  rw [hlen]
  exact chgs_byte hB (k:=3) (by omega)
 have key:mkAd .andNot a 24=⟨false,0,a.lo / 256 * 256⟩:=by
  unfold mkAd
  rw [hm,h6]
  generalize addrL a=l at *
  match l,hlen with
  | [a0,b0,c0,d0],_ =>
   have e1:=fb4 hB
   have hd:=hB d0 (by simp)
   have hB2:IsB [a0,b0,c0,0]:=fun x hx=>by
    simp only [List.mem_cons,List.not_mem_nil,or_false] at hx
    rcases hx with rfl|rfl|rfl|rfl
    ·exact hB _ (by simp)
    ·exact hB _ (by simp)
    ·exact hB _ (by simp)
    ·decide
   have e2:=fb4 hB2
   rw [hfb] at e1
   dsimp only at e1
   show (⟨false,(fb [a0,b0,c0,0]).1,(fb [a0,b0,c0,0]).2⟩:Ad)=_
   rw [e2.1,e2.2,e1.2]
   congr 1
   omega
 unfold mkP
 rw [key]
 unfold eqPre in4 lan4 eqA
 rw [Bool.eq_iff_iff]
 simp
 omega
theorem zeros8 {s:Int × Int} {h:Int} (h1:U64 s.1) (h2:U64 s.2) (hh:U64 h) (e:s.1 * 18446744073709551616 + s.2=h):([0,0,0,0,0,0,0,0]:List Int).foldl fbStep s=(h,0):=by
 have z:(0:Int)≤0∧(0:Int)≤255:=by decide
 show fbStep (fbStep (fbStep (fbStep (fbStep (fbStep (fbStep (fbStep s 0) 0) 0) 0) 0) 0) 0) 0=_
 have k1:=fbStep_val h1 h2 z
 obtain ⟨u1,v1⟩:=fbStep_bd s 0
 generalize fbStep s 0=s1 at *
 have k2:=fbStep_val u1 v1 z
 obtain ⟨u2,v2⟩:=fbStep_bd s1 0
 generalize fbStep s1 0=s2 at *
 have k3:=fbStep_val u2 v2 z
 obtain ⟨u3,v3⟩:=fbStep_bd s2 0
 generalize fbStep s2 0=s3 at *
 have k4:=fbStep_val u3 v3 z
 obtain ⟨u4,v4⟩:=fbStep_bd s3 0
 generalize fbStep s3 0=s4 at *
 have k5:=fbStep_val u4 v4 z
 obtain ⟨u5,v5⟩:=fbStep_bd s4 0
 generalize fbStep s4 0=s5 at *
 have k6:=fbStep_val u5 v5 z
 obtain ⟨u6,v6⟩:=fbStep_bd s5 0
 generalize fbStep s5 0=s6 at *
 have k7:=fbStep_val u6 v6 z
 obtain ⟨u7,v7⟩:=fbStep_bd s6 0
 generalize fbStep s6 0=s7 at *
 have k8:=fbStep_val u7 v7 z
 obtain ⟨u8,v8⟩:=fbStep_bd s7 0
 generalize fbStep s7 0=s8 at *
 unfold U64 at *
 have e8:s8.1 * 18446744073709551616 + s8.2=h * 18446744073709551616:=by omega
 obtain ⟨x,y⟩:=s8
 dsimp only at *
 have e1:x=h:=by omega
 have e2:y=0:=by omega
 rw [e1,e2]
theorem in6_eq {a:Ad} (h6:a.v6=true) (h1:U64 a.hi) (h2:U64 a.lo):eqPre (mkP a 64) lan6=in6 a:=by
 have hl:addrL a=beN 16 (a.hi * 18446744073709551616 + a.lo):=by unfold addrL addrB;rw [h6];rfl
 have hB:IsB (addrL a):=addrL_isB a
 have hlen:(addrL a).length=16:=by rw [addrL_len,h6];rfl
 have hp:(256:Int) ^ 16=340282366920938463463374607431768211456:=by decide
 have hp8:(256:Int) ^ (16 - 8)=18446744073709551616:=by decide
 have h8:=fb_beN 16 (a.hi * 18446744073709551616 + a.lo) (by omega) (by unfold U64 at h1 h2;omega) (by unfold U64 at h1 h2;omega) 8 (by omega)
 rw [← hl,hp8] at h8
 have h8:(fb ((addrL a).take 8)).1 * 18446744073709551616 + (fb ((addrL a).take 8)).2=a.hi:=by rw [h8];unfold U64 at h1 h2;omega
 have hb:=fb_bd ((addrL a).take 8)
 have hm:mkL .andNot a 64=(addrL a).take 8++[0,0,0,0,0,0,0,0]:=by
  unfold mkL
  rw [hlen]
  generalize addrL a=l at *
  have c1:=chgs_byte hB (k:=8) (by omega)
  have B1:IsB (l.set 8 0):=hB.set 8 (by decide)
  have c2:=chgs_byte B1 (k:=9) (by simp;omega)
  have B2:=B1.set 9 (v:=0) (by decide)
  have c3:=chgs_byte B2 (k:=10) (by simp;omega)
  have B3:=B2.set 10 (v:=0) (by decide)
  have c4:=chgs_byte B3 (k:=11) (by simp;omega)
  have B4:=B3.set 11 (v:=0) (by decide)
  have c5:=chgs_byte B4 (k:=12) (by simp;omega)
  have B5:=B4.set 12 (v:=0) (by decide)
  have c6:=chgs_byte B5 (k:=13) (by simp;omega)
  have B6:=B5.set 13 (v:=0) (by decide)
  have c7:=chgs_byte B6 (k:=14) (by simp;omega)
  have B7:=B6.set 14 (v:=0) (by decide)
  have c8:=chgs_byte B7 (k:=15) (by simp;omega)
  rw [show 8 * 16 - 64=8 + 56 from rfl,chgs_add,show (64:Nat)=8 * 8 from rfl,c1]
  rw [show (56:Nat)=8 + 48 from rfl,chgs_add,show 8 * 8 + 8=8 * 9 from rfl,c2]
  rw [show (48:Nat)=8 + 40 from rfl,chgs_add,show 8 * 9 + 8=8 * 10 from rfl,c3]
  rw [show (40:Nat)=8 + 32 from rfl,chgs_add,show 8 * 10 + 8=8 * 11 from rfl,c4]
  rw [show (32:Nat)=8 + 24 from rfl,chgs_add,show 8 * 11 + 8=8 * 12 from rfl,c5]
  rw [show (24:Nat)=8 + 16 from rfl,chgs_add,show 8 * 12 + 8=8 * 13 from rfl,c6]
  rw [show (16:Nat)=8 + 8 from rfl,chgs_add,show 8 * 13 + 8=8 * 14 from rfl,c7]
  rw [show 8 * 14 + 8=8 * 15 from rfl,c8]
  match l,hlen with
  | [x0,x1,x2,x3,x4,x5,x6,x7,x8,x9,x10,x11,x12,x13,x14,x15],_=>rfl
 have key:mkAd .andNot a 64=⟨true,a.hi,0⟩:=by
  unfold mkAd
  rw [hm,h6]
  have e:fb ((addrL a).take 8++[0,0,0,0,0,0,0,0])=(a.hi,0):=by
   unfold fb
   rw [List.foldl_append]
   exact zeros8 hb.1 hb.2 h1 h8
  rw [e]
 unfold mkP
 rw [key]
 unfold eqPre in6 lan6 eqA
 rw [Bool.eq_iff_iff]
 simp
end Go.Proofs.YtlcndmciognneaaGreatDoor
