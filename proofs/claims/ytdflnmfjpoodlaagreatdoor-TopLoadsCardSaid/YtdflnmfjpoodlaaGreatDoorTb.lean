/-
  TopLoads returns true.
-/
import Derived.Test.YtdflnmfjpoodlaaGreatDoorEq
import Derived.Test.YtdflnmfjpoodlaaGreatDoorEa
import Derived.Test.YtdflnmfjpoodlaaGreatDoorMab
namespace Go.Proofs.YtdflnmfjpoodlaaGreatDoor
open Go.RowKit
theorem lists_snocT (ws:List (List Int)) (w:List Int):listsC ws++[.isl (intsC w) w.length]=listsC (ws++[w]):=by simp [listsC]
theorem ints_snocT (as_:List Int) (a:Int):intsC as_++[AV.base (.int .i64 a)]=intsC (as_++[a]):=by simp [intsC]
theorem nextN (l:List Int) (q:Nat) (n:Int) (h:1≤n):∃ x:Nat,nextV l q n=(x:Int)∧(x:Int) < n:=⟨(nextV l q n).toNat,by have:=nextV_bd l q n h;omega,by have:=nextV_bd l q n h;omega⟩
theorem mul_bd {n d:Int} (h0:0≤n) (h1:n < 50) (h2:0≤d) (h3:d≤8):0≤n * d∧n * d≤400 :=
 ⟨Int.mul_nonneg h0 h2,by have:n * d≤50 * 8:=Int.mul_le_mul (by omega) h3 h2 (by omega);omega⟩
set_option maxHeartbeats 4000000 in
theorem topLoads_law (l:List Int) (hl:l.length≤9223372036854775807):AFn Tryz.prog 4 0 [.isl (intsC l) l.length] mt (.base (.bool true)) mt:=by
 refine AFn.eq Tryz.func4 rfl rfl (Nat.le_of_ble_eq_true rfl) ?_
 have hnew:=new_any l
 obtain ⟨v,H',hcall,f,a1,⟨hf,hsw⟩,rfl,rfl⟩:=fabric_any l 0 2 (by decide) (by decide) hl
 have hs1:=hf.sw1
 have hs7:=hf.sw7
 have hdd:=hf.dead
 have hnl:=hf.nlinks
 have hend:=hf.ends
 have hwy:=way_any f hf.fs hend
 have hds:=distances_isl f hf.fs
 have hfl:=flow_any f hf.fs hf.val
 have hwk:=worksX_any f
 have hlo:=fun ws as_ hw hws=>loads_any f (by omega) ws as_ hw hws
 have hnx:=fun at_ n (h1:(1:Int)≤n) h2=>next_any l at_ n h1 h2 hl
 have k0:((f.dead.length:Int) != f.sw)=false:=by simp;omega
 refine Wq<|qW 0 1 rfl<|qA rfl<|Nl<|Wq<|qW 5 8 rfl<|qM rfl<|Od rfl rfl (CN (fr:=[]) rfl rfl (hnew) fok5 (.cons rfl (.pure rfl) .nil) rfl (by decide))<|qA rfl<|Nl<|Wq<|qW 12 16 rfl<|qM rfl<|Od rfl rfl (C1 (fr:=[]) rfl rfl (hcall) fok8 (.own rfl rfl (.cons rfl (.pure rfl) .nil)) rfl rfl rfl (Cn _ _) (by decide) rfl)<|qB rfl ty41<|qS rfl ty41 (Sl rfl) rfl<|Nl<|Wq<|qW 20 21 rfl<|qA rfl<|Nl<|Wq<|qW 25 26 rfl<|qA rfl<|Nl<|Wq<|qW 30 31 rfl<|qA rfl<|Nl<|Wq<|Wq<|qW 35 36 rfl<|qM rfl<|Nl<|W.name 36 (36 + 1) (t:=5) (sz:=1) rfl (by decide) (by decide)<|W.name (36 + 1) (36 + 2) (t:=6) (sz:=1) rfl (by decide) (by decide)<|Wb<|W.loop_keep (α:=Nat × Nat × List (List Int) × List Int) (fun x=>8 - x.1) 4 (fun x=>[(3,.own 0 0),(4,.own 1 0),(5,.osl 2 0 x.2.2.1.length 1),(6,.osl 3 0 x.2.2.2.length 1),(7,.base (.int .i64 (wantK x.2.2.1 x.2.2.2 x.2.2.1.length))),(22,.base (.int .i64 (x.1:Int)))]) (fun x=>up (up (up (up mt 0 (some (deckC l x.2.1))) 1 (some (fabC f))) 2 (some (listsC x.2.2.1))) 3 (some (intsC x.2.2.2))) (fun x=>x.1≤8∧x.2.2.1.length≤x.1∧WaysOK f x.2.2.1 x.2.2.2) (0,a1,(([]:List (List Int))),(([]:List Int))) [(0,6),(1,14),(2,36),(3,(36 + 1))] .nil (show 0≤8∧(([]:List (List Int))).length≤0∧WaysOK f (([]:List (List Int))) (([]:List Int)) from ⟨Nat.zero_le _,Nat.zero_le _,WaysOK.nil⟩) (by decide) ?_ ?_ ?_
 ·exact lC (lI rfl) (lC (lI rfl) (lC (lI rfl) (lC (lI rfl) (lC (lR rfl) (lC (lR rfl) lN)))))
 ·exact aU (kR rfl) (aU (kR rfl) (aU (kR rfl) (aU (kR rfl) aM)))
 rintro ⟨k,q,ws,as_⟩ hIA ihA
 try (dsimp only at hIA)
 try dsimp only [baseT,List.cons_append,List.nil_append]
 obtain ⟨hk,hw,hWO⟩:=hIA
 have hal:=hWO.len
 by_cases hc:k < 8
 ·have g1:decide ((k:Int) < 8)=true:=decide_eq_true (by omega)
  obtain ⟨a,ha,ha2⟩:=nextN l q f.sw hs1
  have hn1:=hnx q f.sw hs1 (by omega)
  rw [ha] at hn1
  obtain ⟨q2,hq2⟩:∃ q2,nextAt l q=q2:=⟨_,rfl⟩
  rw [hq2] at hn1
  obtain ⟨b,hb,hb2⟩:=nextN l q2 f.sw hs1
  have hn2:=hnx q2 f.sw hs1 (by omega)
  rw [hb] at hn2
  obtain ⟨q3,hq3⟩:∃ q3,nextAt l q2=q3:=⟨_,rfl⟩
  rw [hq3] at hn2
  obtain ⟨n,hn,hn50⟩:=nextN l q3 50 (by decide)
  have hn3:=hnx q3 50 (by decide) (by decide)
  rw [hn] at hn3
  obtain ⟨q4,hq4⟩:∃ q4,nextAt l q3=q4:=⟨_,rfl⟩
  rw [hq4] at hn3
  obtain ⟨h,hh⟩:∃ h,nextV l q4 9=h:=⟨_,rfl⟩
  have hn4:=hnx q4 9 (by decide) (by decide)
  rw [hh] at hn4
  have hwy1:=hwy a b h
  have hds1:=hds b
  have hfl1:=hfl a b
  have hdlt:=dist_lt f b a (by omega)
  have hdl:=dist_len f b
  have hda:gI (dist f b) a≤8:=by omega
  clear hwy hds hfl
  by_cases hD:0≤gI (dist f b) a
  ·have hW:AFn Tryz.prog 19 0 [.agg (fabC f),.base (.int .i64 a),.base (.int .i64 b),.base (.int .i64 h)] mt (.tup [.isl (intsC (wayL f (dist f b) h (gI (dist f b) a).toNat a)) (wayL f (dist f b) h (gI (dist f b) a).toNat a).length,.base (.bool true)]) mt:=by
    have:=hwy1
    unfold wayV wayF at this
    rw [if_pos hD] at this
    exact this
   clear hwy1
   obtain ⟨hnd,hin⟩:=wayL_nd (f:=f) (t:=b) (h:=h) _ (a:Int) hD rfl
   have hwl:=wayL_len f (dist f b) h (gI (dist f b) a).toNat a
   generalize wayL f (dist f b) h (gI (dist f b) a).toNat a=w at hW hnd hin hwl
   have hWn:=hWO.snoc (w:=w) (a:=(n:Int)) ⟨hnd,by omega,fun z hz=>by obtain ⟨i,e1,e2,e3,_⟩:=hin z hz;exact ⟨i,e1,e2,e3⟩⟩ ⟨by omega,hn50⟩
   have hbd:=wantK_bd hWO ws.length (Nat.le_refl _)
   have hnext:=wantK_next ws as_ w (n:Int) hal
   have hmb:=mul_bd (n:=n) (by omega) hn50 hD hda
   have hwl2:(w.length:Int)=gI (dist f b) a:=by omega
   rw [hwl2] at hnext
   have hwr1:IntKind.i64.wrap ((n:Int) * gI (dist f b) a)=(n:Int) * gI (dist f b) a:=wrap_id hmb.1 (by omega)
   have hwr2:wantK ws as_ ws.length + (n:Int) * gI (dist f b) a=wantK (ws++[w]) (as_++[(n:Int)]) (ws++[w]).length:=by
    rw [List.length_append,List.length_singleton,hnext]
   have k1:decide (gI (dist f b) a ≥ 0)=true:=decide_eq_true hD
   have k2:(!(true == decide (gI (dist f b) a ≥ 0)))=false:=by rw [k1];rfl
   refine Wq<|qW 40 41 rfl<|qK rfl<|Nl<|Wq<|Wt rfl ‹_›<|Wu<|Wq<|Wb<|Wq<|Wd 45 58 (by decide) rfl mixed rfl<|qM rfl<|qF rfl ty41 rfl<|qL rfl ty3 rfl<|Od rfl rfl (C1 (fr:=[]) rfl rfl (hn1) fok14 (.own rfl rfl (.cons rfl (.pure rfl) .nil)) rfl rfl rfl (Cn _ _) (by decide) rfl)<|qM rfl<|qF rfl ty41 rfl<|qL rfl ty3 rfl<|Od rfl rfl (C1 (fr:=[]) rfl rfl (hn2) fok14 (.own rfl rfl (.cons rfl (.pure rfl) .nil)) rfl rfl rfl (Cn _ _) (by decide) rfl)<|qM rfl<|Od rfl rfl (C1 (fr:=[]) rfl rfl (hn3) fok14 (.own rfl rfl (.cons rfl (.pure rfl) .nil)) rfl rfl rfl (Cn _ _) (by decide) rfl)<|qA rfl<|qA rfl<|qA rfl<|Nl ⟨by kernel_rfl,(Wq<|Wd 62 73 (by decide) rfl mixed rfl<|qG rfl ty41 rfl (Tl rfl)<|qM rfl<|qM rfl<|qM rfl<|Od rfl rfl (C1 (fr:=[]) rfl rfl (hn4) fok14 (.own rfl rfl (.cons rfl (.pure rfl) .nil)) rfl rfl rfl (Cn _ _) (by decide) rfl)<|qY rfl (hW) fok19 rfl<|qM rfl<|qX rfl<|qX rfl<|qA rfl<|qA rfl<|Nl ⟨by kernel_rfl,(Wq<|qW 77 81 rfl<|qG rfl ty41 rfl (Tl rfl)<|qM rfl<|qY rfl (hds1) fok20 rfl<|qA rfl<|Nl<|Wq<|Wq<|qW 85 99 rfl<|qM rfl<|qH rfl ty22<|qF rfl ty41 rfl<|qL rfl ty3 rfl<|qN rfl<|qM rfl<|gM rfl ‹_›<|gM rfl ‹_›<|gM rfl ‹_›<|qU rfl ‹_› rfl (Ii rfl rfl rfl rfl rfl ty22 ty3 (by omega))<|qU rfl ‹_› rfl (Li rfl rfl (ni_at1 (k:=a) (by omega)) ty3 rfl)<|gGe rfl ‹_›<|qU rfl ‹_› rfl (LO.neq_bool rfl rfl rfl ty4)<|qP rfl ‹_› rfl<|Nl<|Wo rfl ‹_›<|Wu<|Wq<|Wq<|qW 108 110 rfl<|qM rfl<|qO rfl<|Nl<|Wo rfl rfl<|Wu<|Wq<|qW 114 124 rfl<|qM rfl<|qM rfl<|Od rfl rfl (LO.buildSlice rfl ty69 ty22 (by decide) (by decide) (.cons rfl rfl rfl rfl (Sl rfl) .nil))<|Od rfl rfl (Lap rfl rfl (Sso rfl rfl (Tl rfl)) rfl (lists_tk rfl) ty69 ty69 ty22 (by decide) (by omega) (by omega) (by decide))<|qM rfl<|qM rfl<|Od rfl rfl (LO.buildSlice rfl ty22 ty3 (by decide) (by decide) (.cons rfl rfl rfl rfl (Sl rfl) .nil))<|Od rfl rfl (Lap rfl rfl (Sso rfl rfl (Tl rfl)) rfl (ints_tk rfl) ty22 ty22 ty3 (by decide) (by omega) (by omega) (by decide))<|qA rfl<|qA rfl<|Nl ?_)⟩)⟩
   rw [lists_snocT,ints_snocT,show ws.length + 1=(ws++[w]).length from by simp,show as_.length + 1=(as_++[(n:Int)]).length from by simp]
   refine Wq<|qW 128 137 rfl<|qM rfl<|qM rfl<|qM rfl<|qM rfl<|qJ rfl rfl ty22 ty3 (by omega)<|Od rfl rfl (Li rfl rfl (ni_at1 (k:=a) (by omega)) ty3 rfl)<|Od rfl rfl (LO.mul_in rfl rfl rfl (iW _ (by omega)))<|qZ rfl (iW _ (by omega))<|qA rfl<|Nl ?_
   rw [hwr2]
   by_cases hab:(a:Int)=b
   ·have k3:((a:Int) != b)=false:=by simpa using hab
    refine Wq<|qW 141 151 rfl<|qM rfl<|qM rfl<|qN rfl<|qM rfl<|qD rfl ‹_› rfl<|qD rfl ‹_› rfl<|qD rfl ‹_› rfl<|qD rfl ‹_› rfl<|qD rfl ‹_› rfl<|qP rfl ‹_› rfl<|Nl<|Wo rfl rfl<|Wu<|qW 160 162 rfl<|qZ rfl (iW _ (by omega))<|qM rfl<|Nl<|WL.renameL [(0,0),(1,1),(2,117),(3,121)] 4 (by decide) ?_ ?_ (ihA ((k + 1),(nextAt l q4),(ws++[w]),(as_++[(n:Int)])) (show 8 - (k + 1) < 8 - k from by omega) (show (k + 1)≤8∧(ws++[w]).length≤(k + 1)∧WaysOK f (ws++[w]) (as_++[(n:Int)]) from ⟨by omega,by simp;omega,hWn⟩))
    ·exact lC (lI rfl) (lC (lI rfl) (lC (lI rfl) (lC (lI rfl) (lC (lR rfl) (lC (lR rfl) lN)))))
    ·exact aU (kP rfl (intsC_pure _)) (aU (kP rfl (listsC_pure _)) (aU (kR rfl) (aU (kR rfl) aM)))
   ·have k3:((a:Int) != b)=true:=by simpa using hab
    have hjoin:=flow_join hf.lk hf.c1 (a:=a) (b:=b) (by omega) (by omega) (by omega)
    rw [← dist_symm] at hD
    have hfp:=hjoin.2 hD
    have k4:(flowF f a b == 0)=false:=by simp;omega
    refine Wq<|qW 141 151 rfl<|qM rfl<|qM rfl<|qN rfl<|qM rfl<|gG rfl ‹_› ty41 rfl (Tl rfl)<|gM rfl ‹_›<|gM rfl ‹_›<|gY rfl ‹_› (hfl1) fok21 rfl<|gE rfl ‹_›<|qT rfl ‹_› rfl<|Nl<|Wo rfl ‹_›<|Wu<|qW 160 162 rfl<|qZ rfl (iW _ (by omega))<|qM rfl<|Nl<|WL.renameL [(0,0),(1,1),(2,117),(3,121)] 4 (by decide) ?_ ?_ (ihA ((k + 1),(nextAt l q4),(ws++[w]),(as_++[(n:Int)])) (show 8 - (k + 1) < 8 - k from by omega) (show (k + 1)≤8∧(ws++[w]).length≤(k + 1)∧WaysOK f (ws++[w]) (as_++[(n:Int)]) from ⟨by omega,by simp;omega,hWn⟩))
    ·exact lC (lI rfl) (lC (lI rfl) (lC (lI rfl) (lC (lI rfl) (lC (lR rfl) (lC (lR rfl) lN)))))
    ·exact aU (kP rfl (intsC_pure _)) (aU (kP rfl (listsC_pure _)) (aU (kR rfl) (aU (kR rfl) aM)))
  ·have hW:AFn Tryz.prog 19 0 [.agg (fabC f),.base (.int .i64 a),.base (.int .i64 b),.base (.int .i64 h)] mt (.tup [.isl (intsC []) 0,.base (.bool false)]) mt:=by
    have:=hwy1
    unfold wayV wayF at this
    rw [if_neg hD] at this
    exact this
   clear hwy1
   have k1:decide (gI (dist f b) a ≥ 0)=false:=decide_eq_false hD
   have k2:(!(false == decide (gI (dist f b) a ≥ 0)))=false:=by rw [k1];rfl
   refine Wq<|qW 40 41 rfl<|qK rfl<|Nl<|Wq<|Wt rfl ‹_›<|Wu<|Wq<|Wb<|Wq<|Wd 45 58 (by decide) rfl mixed rfl<|qM rfl<|qF rfl ty41 rfl<|qL rfl ty3 rfl<|Od rfl rfl (C1 (fr:=[]) rfl rfl (hn1) fok14 (.own rfl rfl (.cons rfl (.pure rfl) .nil)) rfl rfl rfl (Cn _ _) (by decide) rfl)<|qM rfl<|qF rfl ty41 rfl<|qL rfl ty3 rfl<|Od rfl rfl (C1 (fr:=[]) rfl rfl (hn2) fok14 (.own rfl rfl (.cons rfl (.pure rfl) .nil)) rfl rfl rfl (Cn _ _) (by decide) rfl)<|qM rfl<|Od rfl rfl (C1 (fr:=[]) rfl rfl (hn3) fok14 (.own rfl rfl (.cons rfl (.pure rfl) .nil)) rfl rfl rfl (Cn _ _) (by decide) rfl)<|qA rfl<|qA rfl<|qA rfl<|Nl ⟨by kernel_rfl,(Wq<|Wd 62 73 (by decide) rfl mixed rfl<|qG rfl ty41 rfl (Tl rfl)<|qM rfl<|qM rfl<|qM rfl<|Od rfl rfl (C1 (fr:=[]) rfl rfl (hn4) fok14 (.own rfl rfl (.cons rfl (.pure rfl) .nil)) rfl rfl rfl (Cn _ _) (by decide) rfl)<|qY rfl (hW) fok19 rfl<|qM rfl<|qX rfl<|qX rfl<|qA rfl<|qA rfl<|Nl ⟨by kernel_rfl,(Wq<|qW 77 81 rfl<|qG rfl ty41 rfl (Tl rfl)<|qM rfl<|qY rfl (hds1) fok20 rfl<|qA rfl<|Nl<|Wq<|Wq<|qW 85 99 rfl<|qM rfl<|qH rfl ty22<|qF rfl ty41 rfl<|qL rfl ty3 rfl<|qN rfl<|qM rfl<|gM rfl ‹_›<|gM rfl ‹_›<|gM rfl ‹_›<|qU rfl ‹_› rfl (Ii rfl rfl rfl rfl rfl ty22 ty3 (by omega))<|qU rfl ‹_› rfl (Li rfl rfl (ni_at1 (k:=a) (by omega)) ty3 rfl)<|gGe rfl ‹_›<|qU rfl ‹_› rfl (LO.neq_bool rfl rfl rfl ty4)<|qP rfl ‹_› rfl<|Nl<|Wo rfl ‹_›<|Wu<|Wq<|Wq<|qW 108 110 rfl<|qM rfl<|qO rfl<|Nl<|Wt rfl rfl<|Wx<|qW 160 162 rfl<|qZ rfl (iW _ (by omega))<|qM rfl<|Nl<|WL.renameL [(0,0),(1,1),(2,2),(3,3)] 4 (by decide) ?_ ?_ (ihA ((k + 1),(nextAt l q4),ws,as_) (show 8 - (k + 1) < 8 - k from by omega) (show (k + 1)≤8∧ws.length≤(k + 1)∧WaysOK f ws as_ from ⟨by omega,by omega,hWO⟩)))⟩)⟩
   ·exact lC (lI rfl) (lC (lI rfl) (lC (lI rfl) (lC (lI rfl) (lC (lR rfl) (lC (lR rfl) lN)))))
   ·exact aU (kP rfl (intsC_pure _)) (aU (kP rfl (listsC_pure _)) (aU (kR rfl) (aU (kR rfl) aM)))
 ·have g1:decide ((k:Int) < 8)=false:=decide_eq_false (by omega)
  refine Wq<|qW 40 41 rfl<|qK rfl<|Nl<|Wq<|Wo rfl ‹_›<|Wx ?_
  clear ihA
  have hla:=hlo ws as_ (by omega) (fun w hw=>by have:=(hWO.nd w hw).2.1;omega)
  obtain ⟨hsum,hat⟩:=loads_ok hWO (by omega)
  have hbd:=wantK_bd hWO ws.length (Nat.le_refl _)
  have hll:(loadsF f ws as_).length=f.links.length:=by unfold loadsF;rw [loadsK_len]
  generalize wantK ws as_ ws.length=want at hsum hbd ⊢
  generalize loadsF f ws as_=Ld at hla hsum hat hll
  unfold intsV at hla
  refine Wy (t:=5) rfl rfl (lists_tk rfl) (listsC_pure _)<|Wy (t:=6) rfl rfl (ints_tk rfl) (intsC_pure _)<|Wq<|qW 166 167 rfl<|qA rfl<|Nl<|Wq<|qW 171 176 rfl<|qG rfl ty41 rfl (Tl rfl)<|qM rfl<|qM rfl<|qY rfl (hla) fok22 rfl<|qA rfl<|Nl<|Wq<|Wq<|qW 180 183 rfl<|qM rfl<|qH rfl ty22<|qM rfl<|Nl<|Wb<|W.loop_keep (α:=Nat) (fun x=>Ld.length - x) 1 (fun x=>[(4,.own 0 0),(14,.base (.int .i64 ((Ld.take x).sum))),(95,.base (.int .i64 (x:Int)))]) (fun x=>up mt 0 (some (fabC f))) (fun x=>x≤Ld.length∧0≤(Ld.take x).sum∧(Ld.take x).sum≤50000 * x) 0 [(0,1)] (.cons (t:=7) rfl (by exact .inl rfl) (.cons (t:=15) rfl (by exact .inl rfl) (.cons (t:=93) rfl (by exact .inl rfl) (.cons (t:=94) rfl (by exact .inl rfl) .nil)))) (show 0≤Ld.length∧0≤(Ld.take 0).sum∧(Ld.take 0).sum≤50000 * 0 from ⟨Nat.zero_le _,by simp,by simp⟩) (by decide) ?_ ?_ ?_
  ·exact lC (lI rfl) (lC (lR rfl) (lC (lR rfl) lN))
  ·exact aU (kR rfl) aM
  rintro j hIB ihB
  try (dsimp only at hIB)
  try dsimp only [baseT,List.cons_append,List.nil_append]
  obtain ⟨i1,i2,i3⟩:=hIB
  by_cases hj:j < Ld.length
  ·have g4:decide ((j:Int) < (Ld.length:Int))=true:=decide_eq_true (by omega)
   obtain ⟨b1,b2,b3⟩:=hat j (by omega)
   have htk:(Ld.take (j + 1)).sum=(Ld.take j).sum + gI Ld j:=by
    rw [show Ld.take (j + 1)=Ld.take j++[Ld[j]] from by rw [List.take_add_one];simp [hj],List.sum_append,gI_at hj]
    simp
   refine Wq<|qW 187 188 rfl<|qK rfl<|Nl<|Wq<|Wt rfl ‹_›<|Wu<|Wq<|Wb<|Wq<|qW 192 197 rfl<|qM rfl<|qJ rfl rfl ty22 ty3 (by omega)<|Od rfl rfl (Li rfl rfl (ni_at1 (k:=j) hj) ty3 rfl)<|qA rfl<|qA rfl<|Nl ?_
   by_cases hz:gI Ld j=0
   ·have k5:(gI Ld j != 0)=false:=by simpa using hz
    refine Wq<|Wq<|qW 201 209 rfl<|qM rfl<|qN rfl<|qM rfl<|qD rfl ‹_› rfl<|qD rfl ‹_› rfl<|qD rfl ‹_› rfl<|qD rfl ‹_› rfl<|qP rfl ‹_› rfl<|Nl<|Wo rfl rfl<|Wu<|qW 218 222 rfl<|qM rfl<|qM rfl<|qZ rfl (iW _ (by omega))<|qA rfl<|Nl ?_
    rw [← htk]
    refine qW 226 228 rfl<|qZ rfl (iW _ (by omega))<|qM rfl<|Nl<|WL.renameL [(0,0)] 1 (by decide) ?_ ?_ (ihB (j + 1) (show Ld.length - (j + 1) < Ld.length - j from by omega) (show (j + 1)≤Ld.length∧0≤(Ld.take (j + 1)).sum∧(Ld.take (j + 1)).sum≤50000 * (j + 1) from ⟨by omega,by omega,by omega⟩))
    ·exact lC (lI rfl) (lC (lR rfl) (lC (lR rfl) (lC (lR rfl) (lC (lR rfl) (lC (lR rfl) (lC (lR rfl) lN))))))
    ·exact aU (kR rfl) aM
   ·have k5:(gI Ld j != 0)=true:=by simpa using hz
    have k6:(!worksB f (j:Int))=false:=by
     have:=b3 hz
     unfold wkF at this
     rw [this];rfl
    refine Wq<|Wq<|qW 201 209 rfl<|qM rfl<|qN rfl<|qM rfl<|gG rfl ‹_› ty41 rfl (Tl rfl)<|gM rfl ‹_›<|gY rfl ‹_› (hwk _) fok10 rfl<|gO rfl ‹_›<|qT rfl ‹_› rfl<|Nl<|Wo rfl ‹_›<|Wu<|qW 218 222 rfl<|qM rfl<|qM rfl<|qZ rfl (iW _ (by omega))<|qA rfl<|Nl ?_
    rw [← htk]
    refine qW 226 228 rfl<|qZ rfl (iW _ (by omega))<|qM rfl<|Nl<|WL.renameL [(0,0)] 1 (by decide) ?_ ?_ (ihB (j + 1) (show Ld.length - (j + 1) < Ld.length - j from by omega) (show (j + 1)≤Ld.length∧0≤(Ld.take (j + 1)).sum∧(Ld.take (j + 1)).sum≤50000 * (j + 1) from ⟨by omega,by omega,by omega⟩))
    ·exact lC (lI rfl) (lC (lR rfl) (lC (lR rfl) (lC (lR rfl) (lC (lR rfl) (lC (lR rfl) (lC (lR rfl) lN))))))
    ·exact aU (kR rfl) aM
  ·have g4:decide ((j:Int) < (Ld.length:Int))=false:=decide_eq_false (by omega)
   obtain rfl:j=Ld.length:=by omega
   have k7:((Ld.length:Int) == (f.links.length:Int))=true:=by simp;omega
   have k8:((Ld.take Ld.length).sum == want)=true:=by rw [List.take_length,hsum];simp
   refine Wq<|qW 187 188 rfl<|qK rfl<|Nl<|Wq<|Wo rfl ‹_›<|Wx<|Wq<|qW 232 247 rfl<|qM rfl<|qH rfl ty22<|qF rfl ty41 rfl<|qL rfl ty38 rfl<|qH rfl ty38<|qE rfl<|qM rfl<|gM rfl ‹_›<|gM rfl ‹_›<|gE rfl ‹_›<|qT rfl ‹_› rfl<|qM rfl<|gY rfl ‹_› (awake_any) fok11 rfl<|qT rfl ‹_› rfl<|qA rfl<|Nl<|Wz ⟨.inl rfl,_,mt,Rc (Rt0 rfl) (Rv),aM,?_⟩
   exact ⟨rfl,rfl⟩
end Go.Proofs.YtdflnmfjpoodlaaGreatDoor
