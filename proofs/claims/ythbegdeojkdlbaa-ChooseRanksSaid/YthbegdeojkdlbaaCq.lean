/-
  ChooseRanks: the law.
-/
import Derived.Test.YthbegdeojkdlbaaCp
import Derived.Test.YthbegdeojkdlbaaMab
namespace Go.Proofs.Ythbegdeojkdlbaa
open Go.RowKit
set_option maxHeartbeats 2000000 in
theorem rbest_any (p:Po) (l:List Rt) (hp:p.pr.length≤1000) (hp2:∀ x∈p.pr,-10≤x.2∧x.2≤10) (hl:l.length≤1000) (ho:∀ r∈l,OkR r):AFn Try.prog 8 0 [.agg (poC p),.isl (rtsC l) l.length] mt (.tup [.base (.int .i64 (bestK p l l.length:Nat)),.base (.bool (decide ((0:Int) < (l.length:Int))))]) mt:=by
 refine AFn.eq Try.func8 rfl rfl (Nat.le_of_ble_eq_true rfl) ?_
 rw [po_lit]
 refine Wq<|qW 0 3 rfl<|qC rfl<|qA rfl<|qA rfl<|Nl<|Wq<|qW 7 8 rfl<|qA rfl<|Nl<|Wq<|Wq<|qW 12 15 rfl<|qM rfl<|qH rfl ty29<|qM rfl<|Nl<|Wb<|W.loop_keep (α:=Nat × Nat) (fun x=>l.length - x.1) 1 (fun x=>[(2,.own 0 0),(6,.base (.int .i64 (x.2:Int))),(12,.base (.int .i64 (x.1:Int)))]) (fun x=>up mt 0 (some ([.base (.int .i64 p.asn),.base (.bool p.n4),.base (.bool p.n6),.base (.bool p.hol),.base (.int .i64 p.hops),.isl p.dc p.dn,.isl (prsC p.pr) p.pr.length]))) (fun x=>x.1≤l.length∧bestK p l x.1=x.2) (0,0) [(0,0)] (.cons (t:=1) rfl (by exact .inl rfl) (.cons (t:=11) rfl (by exact .inl rfl) .nil)) (show 0≤l.length∧bestK p l 0=0 from ⟨Nat.zero_le _,rfl⟩) (by decide) ?_ ?_ ?_
 ·exact lC (lI rfl) (lC (lR rfl) (lC (lR rfl) lN))
 ·exact aU (kR rfl) aM
 rintro ⟨i,bi⟩ hIA ihA
 try (dsimp only at hIA)
 try dsimp only [baseT,List.cons_append,List.nil_append]
 obtain ⟨hi,hbie⟩:=hIA
 by_cases hc:i < l.length
 rotate_left
 ·have g2:decide ((i:Int) < (l.length:Int))=false:=decide_eq_false (by omega)
  have he:i=l.length:=by omega
  refine Wq<|qW 19 20 rfl<|qK rfl<|Nl<|Wq<|Wo rfl ‹_›<|Wx<|Wq<|qW 67 73 rfl<|qM rfl<|qM rfl<|qH rfl ty29<|qGt rfl<|qA rfl<|qA rfl<|Nl<|Wz ⟨.inl rfl,_,mt,Rc (Rt0 rfl) (Rc (Rt0 rfl) (Rv)),aM,?_⟩
  exact ⟨by rw [← hbie,he];rfl,rfl⟩
 have g2:decide ((i:Int) < (l.length:Int))=true:=decide_eq_true (by omega)
 have hii:(i:Int) + 1=((i + 1:Nat):Int):=by omega
 have hbi:bestK p l i < l.length:=by
  cases i with
  | zero=>show 0 < l.length;omega
  | succ i=>have:=bestK_lt p l i;omega
 have hc1:=rcompare_any p (gR l i) (gR l (bestK p l i)) hp hp2 (by rw [gR_at hc];exact ho _ (List.getElem_mem _)) (by rw [gR_at hbi];exact ho _ (List.getElem_mem _))
 have hb2:bestK p l (i + 1)=if (cmpF p (gR l i) (gR l (bestK p l i))).1 < 0 then i else bestK p l i:=rfl
 have t1:=gR_tk hc
 have t2:=gR_tk hbi
 unfold cmpV at hc1
 rw [hbie] at hc1 hb2 hbi t2
 rw [po_lit] at hc1
 obtain ⟨cx,hcx⟩:∃ cx,(cmpF p (gR l i) (gR l bi)).1=cx:=⟨_,rfl⟩
 rw [hcx] at hc1 hb2
 refine Wq<|qW 19 20 rfl<|qK rfl<|Nl<|Wq<|Wt rfl ‹_›<|Wu<|Wq<|Wb<|Wq<|qW 24 26 rfl<|qM rfl<|qA rfl<|Nl<|Wq<|Wd 30 45 (by decide) rfl mixed rfl<|qG rfl ty27 rfl (Tl rfl)<|qM rfl<|qM rfl<|qJ rfl rfl ty29 ty54 (by omega)<|Od rfl rfl (Lg rfl rfl ty54 rfl t1)<|qM rfl<|qM rfl<|qJ rfl rfl ty29 ty54 (by omega)<|Od rfl rfl (Lg rfl rfl ty54 rfl t2)<|Od rfl rfl (C0 (fr:=[]) rfl rfl (hc1) fok16 (.cons rfl (.pure rfl) (.cons rfl (.pure (rtC_pure (gR l i))) (.cons rfl (.pure (rtC_pure (gR l bi))) .nil))) rfl)<|qM rfl<|qX rfl<|qX rfl<|qA rfl<|qA rfl<|Nl ⟨by kernel_rfl,(Wq<|qW 49 51 rfl<|qM rfl<|qK rfl<|Nl ?_)⟩
 by_cases c1:cx < 0
 ·have g3:decide (cx < 0)=true:=decide_eq_true c1
  rw [if_pos c1] at hb2
  refine Wt rfl ‹_›<|qW 55 57 rfl<|qM rfl<|qA rfl<|Nl<|qW 61 63 rfl<|qZ rfl (iW _ (by omega))<|qM rfl<|Nl ?_
  rw [hii]
  refine WL.renameL [(0,0)] 1 (by decide) ?_ ?_ (ihA ((i + 1),i) (show l.length - (i + 1) < l.length - i from by omega) (show (i + 1)≤l.length∧bestK p l (i + 1)=i from ⟨by omega,hb2⟩))
  ·exact lC (lI rfl) (lC (lR rfl) (lC (lR rfl) (lC (lR rfl) (lC (lR rfl) lN))))
  ·exact aU (kR rfl) aM
 ·have g3:decide (cx < 0)=false:=decide_eq_false c1
  rw [if_neg c1] at hb2
  refine Wo rfl ‹_›<|Wu<|qW 61 63 rfl<|qZ rfl (iW _ (by omega))<|qM rfl<|Nl ?_
  rw [hii]
  refine WL.renameL [(0,0)] 1 (by decide) ?_ ?_ (ihA ((i + 1),bi) (show l.length - (i + 1) < l.length - i from by omega) (show (i + 1)≤l.length∧bestK p l (i + 1)=bi from ⟨by omega,hb2⟩))
  ·exact lC (lI rfl) (lC (lR rfl) (lC (lR rfl) (lC (lR rfl) (lC (lR rfl) lN))))
  ·exact aU (kR rfl) aM
theorem same_any (l:List Nat) (n:Nat) (hn:l.length=n) (h:n≤1000):AFn Try.prog 9 0 [.isl (natsC l) n,.isl (natsC l) n] mt (.base (.bool true)) mt:=by
 refine AFn.eq Try.func9 rfl rfl (Nat.le_of_ble_eq_true rfl) ?_
 have g0:((n:Int) != (n:Int))=false:=by simp
 refine Wq<|qW 0 1 rfl<|qA rfl<|Nl<|Wq<|Wq<|qW 5 10 rfl<|qM rfl<|qH rfl ty22<|qM rfl<|qH rfl ty22<|qN rfl<|Nl<|Wo rfl ‹_›<|Wu<|Wq<|Wq<|qW 19 22 rfl<|qM rfl<|qH rfl ty22<|qM rfl<|Nl<|Wb<|W.loop_keep (α:=Nat) (fun x=>n - x) 0 (fun x=>[(13,.base (.int .i64 (x:Int)))]) (fun x=>mt) (fun x=>x≤n) 0 [] (.cons (t:=0) rfl (by exact .inl rfl) (.cons (t:=1) rfl (by exact .inl rfl) (.cons (t:=12) rfl (by exact .inl rfl) .nil))) (show 0≤n from Nat.zero_le _) (by decide) ?_ ?_ ?_
 ·exact lC (lR rfl) lN
 ·exact aM
 rintro k hIA ihA
 try (dsimp only at hIA)
 try dsimp only [baseT,List.cons_append,List.nil_append]
 by_cases hc:k < n
 ·have g1:decide ((k:Int) < (n:Int))=true:=decide_eq_true (by omega)
  obtain ⟨v,hv⟩:∃ v,l[k]?=some v:=⟨l[k],List.getElem?_eq_getElem (by omega)⟩
  have ha:(natsC l)[k * 1]?=some (.base (.int .i64 (v:Int))):=by have:=nats_at' hv;rwa [Nat.zero_add] at this
  have g2:((v:Int) != (v:Int))=false:=by simp
  refine Wq<|qW 26 27 rfl<|qK rfl<|Nl<|Wq<|Wt rfl ‹_›<|Wu<|Wq<|Wb<|Wq<|qW 31 33 rfl<|qM rfl<|qA rfl<|Nl<|Wq<|Wd 37 46 (by decide) rfl mixed rfl<|qM rfl<|qM rfl<|qJ rfl rfl ty22 ty3 (by omega)<|Od rfl rfl (Li rfl rfl ha ty3 rfl)<|qM rfl<|qM rfl<|qJ rfl rfl ty22 ty3 (by omega)<|Od rfl rfl (Li rfl rfl ha ty3 rfl)<|qN rfl<|Nl ⟨by kernel_rfl,(Wo rfl ‹_›<|Wu<|qW 55 57 rfl<|qZ rfl (iW _ (by omega))<|qM rfl<|Nl<|WL.renameL [] 0 (by decide) ?_ ?_ (ihA (k + 1) (show n - (k + 1) < n - k from by omega) (show (k + 1)≤n from by omega)))⟩
  ·exact lC (lR rfl) (lC (lR rfl) (lC (lR rfl) (lC (lR rfl) lN)))
  ·exact aM
 ·have g1:decide ((k:Int) < (n:Int))=false:=decide_eq_false (by omega)
  refine Wq<|qW 26 27 rfl<|qK rfl<|Nl<|Wq<|Wo rfl ‹_›<|Wx<|Wq<|qW 61 62 rfl<|qA rfl<|Nl<|Wz ⟨.inl rfl,_,mt,Rc (Rt0 rfl) (Rv),aM,?_⟩
  exact ⟨rfl,rfl⟩
set_option maxHeartbeats 4000000 in
theorem ranks_law (l:List Int) (hl:l.length≤9223372036854775807):AFn Try.prog 3 0 [.isl (intsC l) l.length] mt (.base (.bool true)) mt:=by
 refine AFn.eq Try.func3 rfl rfl (Nat.le_of_ble_eq_true rfl) ?_
 have hnew:=new_any l
 have haw:=awake_any
 obtain ⟨_,_,hpol,p,a1,⟨hpl,hpb⟩,rfl,rfl⟩:=policy_any l 0 106 hl
 obtain ⟨_,_,hrt1,L1,a2,⟨⟨hl1,ho1,_⟩,h51⟩,rfl,rfl⟩:=routes_any l a1 hl
 obtain ⟨_,_,hrt2,L2,a3,⟨⟨hl2,ho2,_⟩,h52⟩,rfl,rfl⟩:=routes_any l a2 hl
 unfold intsC
 have hLo:∀ r∈L1++L2,OkR r:=fun r hr=>(List.mem_append.1 hr).elim (ho1 r) (ho2 r)
 have hLl:(L1++L2).length=L1.length + L2.length:=List.length_append
 have hb1:=best_any p (L1++L2) (by omega) (by omega) hLo
 have hb2:=rbest_any p (L1++L2) (by omega) hpb (by omega) hLo
 have hr1:=rank_any p (L1++L2) (by omega) (by omega) hLo
 have hr2:=rrank_any p (L1++L2) (by omega) hpb (by omega) hLo
 have hsm:=same_any _ _ (isortN_len (cmpN p (L1++L2)) (L1++L2).length) (by omega)
 have e1:decide ((0:Int) < ((L1++L2).length:Int))=decide ((L1++L2).length≠0):=by
  by_cases h:(L1++L2).length=0
  ·rw [decide_eq_false (by omega),decide_eq_false (by simpa using h)]
  ·rw [decide_eq_true (by omega),decide_eq_true h]
 rw [e1] at hb2
 have htk:=rts_tk (l:=L1++L2) hLl
 rw [rtsC_app] at htk
 have hlen:((L1++L2).length:Nat)=L1.length + L2.length:=hLl
 generalize isortN (cmpN p (L1++L2)) (L1++L2).length=ys at *
 generalize bestK p (L1++L2) (L1++L2).length=bk at *
 generalize decide ((L1++L2).length≠0)=bo at *
 rw [hLl,rtsC_app] at hb1 hb2 hr1 hr2
 rw [hLl] at hsm
 have k1:((bk:Int) == (bk:Int))=true:=by simp
 have k2:(bo == bo)=true:=by simp
 have k3:([1,2,3]:List Nat).length=3:=rfl
 rw [po_lit] at hpol hb1 hb2 hr1 hr2
 have hpc:(AV.agg [.base (.int .i64 p.asn),.base (.bool p.n4),.base (.bool p.n6),.base (.bool p.hol),.base (.int .i64 p.hops),.isl p.dc p.dn,.isl (prsC p.pr) p.pr.length]).pure=true:=rfl
 have hrp:(rtsC L1++rtsC L2).all AV.pure1=true:=by rw [List.all_append,rtsC_pure,rtsC_pure];rfl
 refine Wq<|qW 0 1 rfl<|qA rfl<|Nl<|Wq<|qW 5 8 rfl<|qM rfl<|Od rfl rfl (CN (fr:=[]) rfl rfl (hnew) fok4 (.cons rfl (.pure rfl) .nil) rfl (by decide))<|qA rfl<|Nl<|Wq<|qW 12 16 rfl<|qM rfl<|Od rfl rfl (C1 (fr:=[]) rfl rfl (hpol) fok5 (.own rfl rfl (.cons rfl (.pure rfl) .nil)) rfl rfl rfl (Cn _ _) (by decide) rfl)<|qB rfl ty27<|qS rfl ty27 (Sl rfl) rfl<|Nl<|Wq<|qW 20 26 rfl<|qM rfl<|Od rfl rfl (LO.callP (fr:=[]) rfl rfl (hrt1) fok6 (.own rfl rfl .nil) rfl rfl rfl (rtsC_pure _) (Cn _ _) (by decide) (by decide) (by decide))<|qM rfl<|Od rfl rfl (LO.callP (fr:=[]) rfl rfl (hrt2) fok6 (.own rfl rfl .nil) rfl rfl rfl (rtsC_pure _) (Cn _ _) (by decide) (by decide) (by decide))<|Od rfl rfl (Lap rfl rfl (Sso rfl rfl (rts_tk rfl)) rfl (rts_tk rfl) ty29 ty29 ty54 (by decide) (by omega) (by omega) (by decide))<|qA rfl<|Nl<|Wy (t:=5) rfl rfl htk hrp<|Wq<|qW 30 38 rfl<|qG rfl ty27 rfl (Tl rfl)<|qM rfl<|qY rfl (hb1) fok7 rfl<|qM rfl<|qX rfl<|qX rfl<|qA rfl<|qA rfl<|Nl<|Wq<|qW 42 50 rfl<|qG rfl ty27 rfl (Tl rfl)<|qM rfl<|qY rfl (hb2) fok8 rfl<|qM rfl<|qX rfl<|qX rfl<|qA rfl<|qA rfl<|Nl<|Wq<|Wd 54 75 (by decide) rfl mixed rfl<|qM rfl<|qM rfl<|qE rfl<|qM rfl<|gM rfl ‹_›<|gM rfl ‹_›<|qU rfl ‹_› rfl (LO.eql_bool rfl rfl rfl ty4)<|qT rfl ‹_› rfl<|qM rfl<|gG rfl ‹_› ty27 rfl (Tl rfl)<|gM rfl ‹_›<|gY rfl ‹_› (hr1) fok10 rfl<|gG rfl ‹_› ty27 rfl (Tl rfl)<|gM rfl ‹_›<|gY rfl ‹_› (hr2) fok11 rfl<|gY rfl ‹_› (hsm) fok9 rfl<|qT rfl ‹_› rfl<|qM rfl<|gY rfl rfl (haw) fok12 rfl<|qT rfl rfl rfl<|qA rfl<|Nl ⟨by kernel_rfl,(Wz ⟨.inl rfl,_,mt,Rc (Rt0 rfl) (Rv),aM,?_⟩)⟩
 exact ⟨rfl,rfl⟩
end Go.Proofs.Ythbegdeojkdlbaa
