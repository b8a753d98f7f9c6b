/-
  What is left of resources without others, and whether resources cover others: the document's functions. The prefixes of resources; resources and certificates that are drawn.
-/
import Derived.Test.YtbfnfgpjgdbmeaaGreatDoorNg
import Derived.Test.YtbfnfgpjgdbmeaaGreatDoorMab
import Derived.Test.YtbfnfgpjgdbmeaaGreatDoorHe
namespace Go.Proofs.YtbfnfgpjgdbmeaaGreatDoor
open Go.RowKit
theorem flat_next {α β:Type} {f:α→List β} {l:List α} {k:Nat} (h:k < l.length):(l.take (k + 1)).flatMap f=(l.take k).flatMap f++f l[k]:=by
 rw [List.take_add_one,List.getElem?_eq_getElem h,List.flatMap_append]
 simp
theorem filt_next {α β:Type} {f:α→Option β} {l:List α} {k:Nat} (h:k < l.length):(l.take (k + 1)).filterMap f=(l.take k).filterMap f++(f l[k]).toList:=by
 rw [List.take_add_one,List.getElem?_eq_getElem h,List.filterMap_append]
 simp only [Option.toList_some,List.filterMap_cons,List.filterMap_nil]
 cases f l[k]<;>rfl
theorem outL_len {nx:Int→Option Int} (fam:Bool) (last:Int):∀ (l:List (Int × Int)) (fr:Int) (op:Bool),(outL nx fam last l fr op).length≤l.length + 1:=by
 intro l
 induction l with
 | nil=>intro fr op;unfold outL;split<;>simp
 | cons x l ih =>
  intro fr op
  unfold outL
  split
  ·have:=ih fr op;simp;omega
  ·have h1:(if fr < x.1 then [(fr,x.1 - 1)] else []).length≤1:=by split<;>simp
   rw [List.length_append]
   cases nx x.2 with
   | none=>have:=ih 0 false;simp only [List.length_cons];omega
   | some n=>have:=ih n true;simp only [List.length_cons];omega
theorem outR_len (l:List (Int × Int)):(outR l).length≤2 * l.length + 2:=by
 unfold outR
 rw [List.length_append]
 have:=outL_len (nx:=nxK) false 4294967295 l 0 true
 have:=outL_len (nx:=nxK) true 340282366920938463463374607436063178751 l 4294967296 true
 omega
theorem outR_in {l:List (Int × Int)} (_ha:Asc nxK l) (hi:∀ z∈l,InF z):∀ z∈outR l,(0≤z.1∧z.1 < topK)∧(0≤z.2∧z.2 < topK):=fun z hz=>by
 have hto:∀ x∈l,x.1 < topK:=fun x hx=>(hi x hx).b1.2
 have bd:∀ (fam:Bool) (last fr:Int) (op:Bool) (l:List (Int × Int)),(∀ x∈l,InF x)→0≤fr→fr < topK→0≤last→last < topK→∀ z∈outL nxK fam last l fr op,(0≤z.1∧z.1 < topK)∧(0≤z.2∧z.2 < topK):=by
  intro fam last fr op l
  induction l generalizing fr op with
  | nil =>
   intro _ h1 h2 h3 h4 z hz
   unfold outL at hz
   split at hz
   ·rw [List.mem_singleton] at hz;subst hz;exact ⟨⟨h1,h2⟩,h3,h4⟩
   ·cases hz
  | cons x l ih =>
   intro hi h1 h2 h3 h4 z hz
   have hx:=hi x (by simp)
   have hi':∀ w∈l,InF w:=fun w hw=>hi w (.tail _ hw)
   unfold outL at hz
   split at hz
   ·exact ih fr op hi' h1 h2 h3 h4 z hz
   ·rcases List.mem_append.1 hz with hz|hz
    ·split at hz
     ·rw [List.mem_singleton] at hz
      subst hz
      have:=hx.b1
      exact ⟨⟨h1,h2⟩,by show 0≤x.1 - 1;omega,by show x.1 - 1 < topK;omega⟩
     ·cases hz
    ·cases hq:nxK x.2 with
     | none=>rw [hq] at hz;exact ih 0 false hi' (Int.le_refl 0) (by decide) h3 h4 z hz
     | some n =>
      rw [hq] at hz
      have h5:=nbK.nx1 _ _ hq
      have h6:n < topK:=by have:=hx.b2;unfold nxK at hq;split at hq;cases hq;unfold topK at *;omega
      have h7:=hx.b2
      exact ih n true hi' (by omega) h6 h3 h4 z hz
 unfold outR at hz
 rcases List.mem_append.1 hz with hz|hz
 ·exact bd _ _ _ _ l hi (by decide) (by decide) (by decide) (by decide) z hz
 ·exact bd _ _ _ _ l hi (by decide) (by decide) (by decide) (by decide) z hz
theorem outN_len:∀ (l:List (Int × Int)) (fr:Int),(outN l fr).length≤l.length + 1:=by
 intro l
 induction l with
 | nil=>intro fr;unfold outN;split<;>simp
 | cons x l ih =>
  intro fr
  unfold outN
  rw [List.length_append]
  have:=ih (x.2 + 1)
  split<;>simp<;>omega
theorem mtX_some {x y:Int × Int} {f t:Int} (hf:max x.1 y.1=f) (ht:min x.2 y.2=t) (h1:fmK x.1=fmK y.1) (h2:f≤t):(mtX x y).toList=[(f,t)]:=by
 unfold mtX;rw [hf,ht,if_pos ⟨h1,h2⟩];rfl
theorem mtX_no {x y:Int × Int} {f t:Int} (hf:max x.1 y.1=f) (ht:min x.2 y.2=t) (h:¬ (fmK x.1=fmK y.1∧f≤t)):(mtX x y).toList=[]:=by
 unfold mtX;rw [hf,ht,if_neg h];rfl
theorem mtY_some {x y:Int × Int} {f t:Int} (hf:max x.1 y.1=f) (ht:min x.2 y.2=t) (h2:f≤t):(mtY x y).toList=[(f,t)]:=by
 unfold mtY;rw [hf,ht,if_pos h2];rfl
theorem mtY_no {x y:Int × Int} {f t:Int} (hf:max x.1 y.1=f) (ht:min x.2 y.2=t) (h:¬ f≤t):(mtY x y).toList=[]:=by
 unfold mtY;rw [hf,ht,if_neg h];rfl
theorem filt_len {α β:Type} (f:α→Option β) (l:List α):(l.filterMap f).length≤l.length:=List.length_filterMap_le f l
def bd600 (k:Nat):Nat:=k * 600
theorem bd600_succ (k:Nat):bd600 (k + 1)=bd600 k + 600:=by unfold bd600;omega
theorem bd600_le {k:Nat} (h:k≤256):bd600 k≤153600:=by unfold bd600;omega
set_option maxHeartbeats 4000000 in
theorem minus_any (b a:Rsc) (hb:RscOk b) (ha:RscOk a):AFn Tryz.prog 92 0 [.agg (rscC b),.agg (rscC a)] mt (if (mtR b.ad (outR a.ad)).length≤256∧(mtN b.ns (outN a.ns 0)).length≤256 then .tup [.agg (rscC ⟨mtR b.ad (outR a.ad),mtN b.ns (outN a.ns 0)⟩),.base (.int .i64 0)] else .tup [.agg (rscC ⟨[],[]⟩),.base (.int .i64 3)]) mt:=by
 refine AFn.eq Tryz.func92 rfl rfl (Nat.le_of_ble_eq_true rfl) ?_
 have hvb:=rsvalid_any b hb
 have hva:=rsvalid_any a ha
 obtain ⟨_,bai,bal,_,bni,bnl⟩:=hb
 obtain ⟨aas,aai,aal,ans_,ani,anl⟩:=ha
 obtain ⟨bad,bns⟩:=b
 obtain ⟨aad,ans⟩:=a
 dsimp only at aas aai aal ans_ ani anl bai bal bni bnl ⊢
 have hout:=outside_any aad aas aai aal
 have hol:=outR_len aad
 have hoi:=outR_in aas aai
 have hnl:=outN_len ans 0
 obtain ⟨O,hO⟩:∃ O,outR aad=O:=⟨_,rfl⟩
 obtain ⟨Q,hQ⟩:∃ Q,outN ans 0=Q:=⟨_,rfl⟩
 rw [hO] at hout hol hoi ⊢
 rw [hQ] at hnl ⊢
 unfold rscC at hva hvb ⊢
 dsimp only at hva hvb ⊢
 refine Wq<|qW 0 4 rfl<|qC rfl<|qC rfl<|qB rfl ty46<|qA rfl<|Nl<|Wq<|Wq<|qW 8 16 rfl<|qG rfl ty46 rfl (Tl rfl)<|qY rfl (hvb) fok72 rfl<|qO rfl<|qM rfl<|gG rfl rfl ty46 rfl (Tl rfl)<|gY rfl rfl (hva) fok72 rfl<|gO rfl rfl<|qP rfl rfl rfl<|Nl<|Wo rfl rfl<|Wu<|Wq<|qW 27 33 rfl<|qF rfl ty46 rfl<|qL rfl ty43 rfl<|qY rfl (hout) fok154 rfl<|Od rfl rfl (Bs rfl ty46 (.cons rfl rfl rfl rfl (Sl rfl) .nil))<|qB rfl ty46<|qS rfl ty46 (Sl rfl) rfl<|Nl<|W.namec 33 (33 + 1) (q:=31) (j:=1) (sz:=2) rfl rfl (Sl rfl) (by decide) (by decide) (by decide)<|Wq<|qW 37 38 rfl<|qA rfl<|Nl<|Wq<|Wq<|qW 42 46 rfl<|qF rfl ty46 rfl<|qL rfl ty44 rfl<|qH rfl ty44<|qM rfl<|Nl<|Wb<|W.rename [(0,0),(1,2),(2,31),(3,33)] 4 (by decide) ?_ ?_ (W.loop_ind (α:=Nat × Int × List (Int × Int)) (fun x=>ans.length - x.1) 4 (fun x=>up (up (up (up (up (up (up mt 2 (some (.own 0 0))) 4 (some (.own 1 0))) 6 (some (.own 2 0))) 7 (some (.base (.int .i64 x.2.1)))) 38 (some (.isl (spnsC ans) ans.length))) 39 (some (.base (.int .i64 (ans.length:Int))))) 40 (some (.base (.int .i64 (x.1:Int))))) (fun x=>up (up (up (up mt 0 (some ([.isl (rngsC bad) bad.length,.isl (spnsC bns) bns.length]))) 1 (some ([.nils,.nils]))) 2 (some ([.isl (rngsC O) O.length,.osl 3 0 x.2.2.length 2]))) 3 (some (spnsC x.2.2))) (fun x=>x.1≤ans.length∧x.2.2.length≤x.1∧(0≤x.2.1∧x.2.1≤4294967296)∧x.2.2++outN (ans.drop x.1) x.2.1=Q) (0,0,(([]:List (Int × Int)))) (show 0≤ans.length∧(([]:List (Int × Int))).length≤0∧(0≤0∧0≤4294967296)∧(([]:List (Int × Int)))++outN (ans.drop 0) 0=Q from ⟨Nat.zero_le _,Nat.le_refl _,by omega,hQ⟩) ?_)
 ·exact aR (aR (aR (aR (aI (aI (aI aM))))))
 ·exact aU (kR rfl) (aU (kI rfl) (aU (kR rfl) (aU (kR rfl) aM)))
 rintro ⟨k,fr,q⟩ hIA ihA
 try (dsimp only at hIA)
 try dsimp only
 obtain ⟨hk,hql,hfr,hq⟩:=hIA
 by_cases hc:k < ans.length
 ·have g1:decide ((k:Int) < (ans.length:Int))=true:=decide_eq_true (by omega)
  have hkk:(k:Int) + 1=((k + 1:Nat):Int):=by omega
  have hut:=spn_tk' hc
  obtain ⟨c1,c2,c3⟩:=ani ans[k] (List.getElem_mem hc)
  rw [List.drop_eq_getElem_cons hc] at hq
  obtain ⟨u,hu⟩:∃ u,ans[k]=u:=⟨_,rfl⟩
  rw [hu] at hut c1 c2 c3 hq
  unfold outN at hq
  rw [← List.append_assoc] at hq
  refine Wq<|qW 50 51 rfl<|qK rfl<|Nl<|Wq<|Wt rfl ‹_›<|Wu<|Wq<|Wb<|Wq<|qW 55 59 rfl<|qJ rfl rfl ty44 ty125 (by omega)<|Od rfl rfl (Lg rfl rfl ty125 rfl hut)<|qB rfl ty125<|qS rfl ty125 (Sl rfl) rfl<|Nl ?_
  by_cases hlt:fr < u.1
  ·have d1:decide (fr < u.1)=true:=decide_eq_true hlt
   rw [if_pos hlt] at hq
   refine Wq<|Wq<|qW 63 67 rfl<|qM rfl<|qF rfl ty125 rfl<|qL rfl ty3 rfl<|qK rfl<|Nl<|Wt rfl ‹_›<|qW 71 82 rfl<|qF rfl ty46 rfl<|qL rfl ty44 rfl<|qM rfl<|qF rfl ty125 rfl<|qL rfl ty3 rfl<|Od rfl rfl (LO.sub_in rfl rfl rfl (iW _ (by omega)))<|Od rfl rfl (Bs rfl ty125 (.cons rfl rfl rfl rfl (Sl rfl) (.cons rfl rfl rfl rfl (Sl rfl) .nil)))<|Od rfl rfl (LO.buildSlice rfl ty44 ty125 (by decide) (by decide) (.cons rfl rfl rfl rfl (Sl rfl) .nil))<|Od rfl rfl (Lap rfl rfl (Sso rfl rfl (Tl rfl)) rfl (spns_all rfl) ty44 ty44 ty125 (by decide) (by omega) (by omega) (by decide))<|qF rfl ty46 rfl<|qS rfl ty44 (Sl rfl) rfl<|Nl ?_
   rw [spn_snocL,show q.length + 1=(q++[(fr,u.1 - 1)]).length from by simp]
   refine qW 86 90 rfl<|qF rfl ty125 rfl<|qL rfl ty3 rfl<|qZ rfl (iW _ (by omega))<|qA rfl<|Nl<|qW 94 96 rfl<|qZ rfl (iW _ (by omega))<|qM rfl<|Nl ?_
   rw [hkk]
   refine WL.rename [(0,0),(1,1),(2,2),(3,79)] 4 (by decide) ?_ ?_ (ihA ((k + 1),(u.2 + 1),(q++[(fr,u.1 - 1)])) (show ans.length - (k + 1) < ans.length - k from by omega) (show (k + 1)≤ans.length∧(q++[(fr,u.1 - 1)]).length≤(k + 1)∧(0≤(u.2 + 1)∧(u.2 + 1)≤4294967296)∧(q++[(fr,u.1 - 1)])++outN (ans.drop (k + 1)) (u.2 + 1)=Q from ⟨by omega,by simp;omega,by omega,hq⟩))
   ·exact aR (aR (aR (aR (aI (aI (aI aM))))))
   ·exact aU (kP rfl (spnsC_pure _)) (aU (kI rfl) (aU (kR rfl) (aU (kR rfl) aM)))
  ·have d1:decide (fr < u.1)=false:=decide_eq_false hlt
   rw [if_neg hlt,List.append_nil] at hq
   refine Wq<|Wq<|qW 63 67 rfl<|qM rfl<|qF rfl ty125 rfl<|qL rfl ty3 rfl<|qK rfl<|Nl<|Wo rfl ‹_›<|Wu<|qW 86 90 rfl<|qF rfl ty125 rfl<|qL rfl ty3 rfl<|qZ rfl (iW _ (by omega))<|qA rfl<|Nl<|qW 94 96 rfl<|qZ rfl (iW _ (by omega))<|qM rfl<|Nl ?_
   rw [hkk]
   refine WL.rename [(0,0),(1,1),(2,2),(3,3)] 4 (by decide) ?_ ?_ (ihA ((k + 1),(u.2 + 1),q) (show ans.length - (k + 1) < ans.length - k from by omega) (show (k + 1)≤ans.length∧q.length≤(k + 1)∧(0≤(u.2 + 1)∧(u.2 + 1)≤4294967296)∧q++outN (ans.drop (k + 1)) (u.2 + 1)=Q from ⟨by omega,by omega,by omega,hq⟩))
   ·exact aR (aR (aR (aR (aI (aI (aI aM))))))
   ·exact aU (kP rfl (spnsC_pure _)) (aU (kI rfl) (aU (kR rfl) (aU (kR rfl) aM)))
 ·have g1:decide ((k:Int) < (ans.length:Int))=false:=decide_eq_false (by omega)
  rw [List.drop_of_length_le (by omega)] at hq
  clear ihA
  refine Wq<|qW 50 51 rfl<|qK rfl<|Nl<|Wq<|Wo rfl ‹_›<|Wx<|Wq<|W.joinK (α:=Nat) 4 (fun x=>[(2,.own 0 0),(4,.own 1 0),(6,.own 2 0)]) (fun x=>up (up (up (up mt 0 (some ([.isl (rngsC bad) bad.length,.isl (spnsC bns) bns.length]))) 1 (some ([.nils,.nils]))) 2 (some ([.isl (rngsC O) O.length,.osl 3 0 Q.length 2]))) 3 (some (spnsC Q))) (fun x=>x=0) .nil ?_ ?_
  rotate_left
  rintro z hIJ
  try (dsimp only at hIJ)
  try dsimp only [joinT,baseT,List.cons_append,List.nil_append]
  rotate_right
  ·
   by_cases hlt:fr≤4294967295
   ·
    have d1:decide (fr≤4294967295)=true:=decide_eq_true hlt
    have hq2:q++[(fr,4294967295)]=Q:=by rw [← hq];unfold outN;rw [if_pos hlt]
    have hqn:q.length + 1=Q.length:=by rw [← hq2];simp
    refine Wq<|qW 100 102 rfl<|qM rfl<|qLe rfl<|Nl<|Wt rfl ‹_›<|qW 106 114 rfl<|qF rfl ty46 rfl<|qL rfl ty44 rfl<|qM rfl<|Od rfl rfl (Bs rfl ty125 (.cons rfl rfl rfl rfl (Sl rfl) (.cons rfl rfl rfl rfl (Sl rfl) .nil)))<|Od rfl rfl (LO.buildSlice rfl ty44 ty125 (by decide) (by decide) (.cons rfl rfl rfl rfl (Sl rfl) .nil))<|Od rfl rfl (Lap rfl rfl (Sso rfl rfl (Tl rfl)) rfl (spns_all rfl) ty44 ty44 ty125 (by decide) (by omega) (by omega) (by decide))<|qF rfl ty46 rfl<|qS rfl ty44 (Sl rfl) rfl<|Nl ?_
    rw [spn_snocL,hq2,hqn]
    intro yJ KJ hJ
    refine W.renameJ [(0,0),(1,1),(2,2),(3,111)] 4 (by decide) ?_ ?_ (hJ 0 (show 0=0 from rfl))
    ·exact lC (lI rfl) (lC (lI rfl) (lC (lI rfl) lN))
    ·exact aU (kP rfl (spnsC_pure _)) (aU (kI rfl) (aU (kR rfl) (aU (kR rfl) aM)))
   ·
    have d1:decide (fr≤4294967295)=false:=decide_eq_false hlt
    have hq2:q=Q:=by rw [← hq];unfold outN;rw [if_neg hlt,List.append_nil]
    rw [hq2]
    refine Wq<|qW 100 102 rfl<|qM rfl<|qLe rfl<|Nl<|Wo rfl ‹_›<|Wu ?_
    intro yJ KJ hJ
    refine W.renameJ [(0,0),(1,1),(2,2),(3,3)] 4 (by decide) ?_ ?_ (hJ 0 (show 0=0 from rfl))
    ·exact lC (lI rfl) (lC (lI rfl) (lC (lI rfl) lN))
    ·exact aU (kP rfl (spnsC_pure _)) (aU (kI rfl) (aU (kR rfl) (aU (kR rfl) aM)))
  refine Wq<|qW 118 119 rfl<|qA rfl<|Nl<|W.name 119 (119 + 1) (t:=10) (sz:=6) rfl (by decide) (by decide)<|Wq<|Wq<|qW 123 127 rfl<|qF rfl ty46 rfl<|qL rfl ty43 rfl<|qH rfl ty43<|qM rfl<|Nl<|Wb<|W.rename [(0,0),(1,1),(2,2),(3,3),(4,119)] 5 (by decide) ?_ ?_ (W.loop_ind (α:=Nat × List (Int × Int)) (fun x=>bad.length - x.1) 5 (fun x=>up (up (up (up (up (up (up mt 2 (some (.own 0 0))) 4 (some (.own 1 0))) 6 (some (.own 2 0))) 10 (some (.osl 4 0 x.2.length 6))) 72 (some (.isl (rngsC bad) bad.length))) 73 (some (.base (.int .i64 (bad.length:Int))))) 74 (some (.base (.int .i64 (x.1:Int))))) (fun x=>up (up (up (up (up mt 0 (some ([.isl (rngsC bad) bad.length,.isl (spnsC bns) bns.length]))) 1 (some ([.nils,.nils]))) 2 (some ([.isl (rngsC O) O.length,.osl 3 0 Q.length 2]))) 3 (some (spnsC Q))) 4 (some (rngsC x.2))) (fun x=>x.1≤bad.length∧x.2.length≤bd600 x.1∧x.2=mtR (bad.take x.1) O) (0,(([]:List (Int × Int)))) (show 0≤bad.length∧(([]:List (Int × Int))).length≤bd600 0∧(([]:List (Int × Int)))=mtR (bad.take 0) O from ⟨Nat.zero_le _,by simp,by rw [List.take_zero];rfl⟩) ?_)
  ·exact aR (aR (aR (aI (aI (aI (aI aM))))))
  ·exact aU (kR rfl) (aU (kP rfl (spnsC_pure _)) (aU (kI rfl) (aU (kR rfl) (aU (kR rfl) aM))))
  rintro ⟨k,L⟩ hIB ihB
  try (dsimp only at hIB)
  try dsimp only
  obtain ⟨hk2,hLl,hL⟩:=hIB
  have hbs:=bd600_succ k
  have hbl:=bd600_le (k:=k) (by omega)
  by_cases hc:k < bad.length
  ·have g1:decide ((k:Int) < (bad.length:Int))=true:=decide_eq_true (by omega)
   have hkk:(k:Int) + 1=((k + 1:Nat):Int):=by omega
   have hut:=rng_tk' hc
   have hui:=bai bad[k] (List.getElem_mem hc)
   have hnext:mtR (bad.take (k + 1)) O=mtR (bad.take k) O++O.filterMap (mtX bad[k]):=flat_next hc
   obtain ⟨u,hu⟩:∃ u,bad[k]=u:=⟨_,rfl⟩
   rw [hu] at hut hui hnext
   rw [← hL] at hnext
   have hfl:=filt_len (mtX u) O
   obtain ⟨L0,hL0⟩:∃ L0,L=L0:=⟨_,rfl⟩
   rw [hL0] at hnext
   refine Wq<|qW 131 132 rfl<|qK rfl<|Nl<|Wq<|Wt rfl ‹_›<|Wu<|Wq<|Wb<|Wq<|qW 136 140 rfl<|qJ rfl rfl ty43 ty80 (by omega)<|Od rfl rfl (Lg rfl rfl ty80 rfl hut)<|qB rfl ty80<|qS rfl ty80 (Sl rfl) rfl<|Nl<|Wq<|qW 144 148 rfl<|qF rfl ty46 rfl<|qL rfl ty43 rfl<|qH rfl ty43<|qM rfl<|Nl<|Wb<|W.rename [(0,0),(1,1),(2,2),(3,3),(4,4),(5,138)] 6 (by decide) ?_ ?_ (W.loop_ind (α:=Nat × List (Int × Int)) (fun x=>O.length - x.1) 6 (fun x=>up (up (up (up (up (up (up (up (up (up (up mt 2 (some (.own 0 0))) 4 (some (.own 1 0))) 6 (some (.own 2 0))) 10 (some (.osl 4 0 x.2.length 6))) 12 (some (.own 5 0))) 72 (some (.isl (rngsC bad) bad.length))) 73 (some (.base (.int .i64 (bad.length:Int))))) 74 (some (.base (.int .i64 (k:Int))))) 79 (some (.isl (rngsC O) O.length))) 80 (some (.base (.int .i64 (O.length:Int))))) 81 (some (.base (.int .i64 (x.1:Int))))) (fun x=>up (up (up (up (up (up mt 0 (some ([.isl (rngsC bad) bad.length,.isl (spnsC bns) bns.length]))) 1 (some ([.nils,.nils]))) 2 (some ([.isl (rngsC O) O.length,.osl 3 0 Q.length 2]))) 3 (some (spnsC Q))) 4 (some (rngsC x.2))) 5 (some (rngC u))) (fun x=>x.1≤O.length∧x.2.length≤bd600 k + x.1∧x.2=L0++(O.take x.1).filterMap (mtX u)) (0,L) (show 0≤O.length∧L.length≤bd600 k + 0∧L=L0++(O.take 0).filterMap (mtX u) from ⟨Nat.zero_le _,by omega,by rw [hL0,List.take_zero];simp⟩) ?_)
   ·exact aR (aR (aR (aR (aR (aR (aI (aI (aI (aI (aI aM))))))))))
   ·exact aU (kR rfl) (aU (kP rfl (rngsC_pure _)) (aU (kP rfl (spnsC_pure _)) (aU (kI rfl) (aU (kR rfl) (aU (kR rfl) aM)))))
   rintro ⟨j,L⟩ hIC ihC
   try (dsimp only at hIC)
   try dsimp only
   clear hLl hL hL0
   obtain ⟨hj,hLl,hL⟩:=hIC
   by_cases hcj:j < O.length
   ·have g2:decide ((j:Int) < (O.length:Int))=true:=decide_eq_true (by omega)
    have hjj:(j:Int) + 1=((j + 1:Nat):Int):=by omega
    have hvt:=rng_tk' hcj
    obtain ⟨hv1,hv2⟩:=hoi O[j] (List.getElem_mem hcj)
    have hfn:(O.take (j + 1)).filterMap (mtX u)=(O.take j).filterMap (mtX u)++(mtX u O[j]).toList:=filt_next hcj
    obtain ⟨v,hv⟩:∃ v,O[j]=v:=⟨_,rfl⟩
    rw [hv] at hvt hv1 hv2 hfn
    have hgr:=greater_pl u.1 v.1 hui.b1 hv1
    have hle:=lesser_pl u.2 v.2 hui.b2 hv2
    have hb1:0≤max u.1 v.1∧max u.1 v.1 < topK:=by have:=hui.b1;omega
    have hb2:0≤min u.2 v.2∧min u.2 v.2 < topK:=by have:=hui.b2;omega
    have hcm:=rcmp_pl (max u.1 v.1) (min u.2 v.2) hb1 hb2
    obtain ⟨f,hf⟩:∃ f,max u.1 v.1=f:=⟨_,rfl⟩
    obtain ⟨t,ht⟩:∃ t,min u.2 v.2=t:=⟨_,rfl⟩
    rw [hf] at hgr hcm
    rw [ht] at hle hcm
    refine Wq<|qW 152 153 rfl<|qK rfl<|Nl<|Wq<|Wt rfl ‹_›<|Wu<|Wq<|Wb<|Wq<|qW 157 161 rfl<|qJ rfl rfl ty43 ty80 (by omega)<|Od rfl rfl (Lg rfl rfl ty80 rfl hvt)<|qB rfl ty80<|qS rfl ty80 (Sl rfl) rfl<|Nl<|Wq<|Wd 165 179 (by decide) rfl mixed rfl<|qF rfl ty80 rfl<|qG rfl ty36 rfl (Tl rfl)<|qF rfl ty80 rfl<|qG rfl ty36 rfl (Tl rfl)<|qY rfl (hgr) fok73 rfl<|qF rfl ty80 rfl<|qG rfl ty36 rfl (Tl rfl)<|qF rfl ty80 rfl<|qG rfl ty36 rfl (Tl rfl)<|qY rfl (hle) fok74 rfl<|qB rfl ty36<|qB rfl ty36<|qS rfl ty36 (Sl rfl) rfl<|qS rfl ty36 (Sl rfl) rfl<|Nl ⟨by kernel_rfl,?_⟩
    by_cases hcond:fmK u.1=fmK v.1∧f≤t
    ·have d1:((adOf u.1).v6 == (adOf v.1).v6)=true:=by rw [plVA hui.b1,plVA hv1,hcond.1];simp
     have d2:decide (cmpI f t≤0)=true:=by rw [cmpI_le];exact decide_eq_true hcond.2
     have hL2:L++[(f,t)]=L0++(O.take (j + 1)).filterMap (mtX u):=by rw [hfn,mtX_some hf ht hcond.1 hcond.2,hL,List.append_assoc]
     refine Wq<|qW 183 196 rfl<|qF rfl ty80 rfl<|qF rfl ty36 rfl<|qL rfl ty4 rfl<|qF rfl ty80 rfl<|qF rfl ty36 rfl<|qL rfl ty4 rfl<|Od rfl rfl (LO.eql_bool rfl rfl rfl ty4)<|qM rfl<|gG rfl ‹_› ty36 rfl (Tl rfl)<|gG rfl ‹_› ty36 rfl (Tl rfl)<|gY rfl ‹_› (hcm) fok29 rfl<|gLe rfl ‹_›<|qT rfl ‹_› rfl<|Nl<|Wt rfl ‹_›<|qW 200 207 rfl<|qM rfl<|qG rfl ty36 rfl (Tl rfl)<|qG rfl ty36 rfl (Tl rfl)<|Od rfl rfl (Bs rfl ty80 (.cons rfl rfl rfl rfl (Sl rfl) (.cons rfl rfl rfl rfl (Sl rfl) .nil)))<|Od rfl rfl (LO.buildSlice rfl ty43 ty80 (by decide) (by decide) (.cons rfl rfl rfl rfl (Sl rfl) .nil))<|Od rfl rfl (Lap rfl rfl (Sso rfl rfl (Tl rfl)) rfl (rngs_all rfl) ty43 ty43 ty80 (by decide) (by omega) (by omega) (by decide))<|qA rfl<|Nl ?_
     rw [rng_snocA (k:=f) rfl,show L.length + 1=(L++[(f,t)]).length from by simp]
     refine qW 211 213 rfl<|qZ rfl (iW _ (by omega))<|qM rfl<|Nl ?_
     rw [hjj]
     refine WL.rename [(0,0),(1,1),(2,2),(3,3),(4,205),(5,5)] 6 (by decide) ?_ ?_ (ihC ((j + 1),(L++[(f,t)])) (show O.length - (j + 1) < O.length - j from by omega) (show (j + 1)≤O.length∧(L++[(f,t)]).length≤bd600 k + (j + 1)∧(L++[(f,t)])=L0++(O.take (j + 1)).filterMap (mtX u) from ⟨by omega,by simp;omega,hL2⟩))
     ·exact aR (aR (aR (aR (aR (aR (aI (aI (aI (aI (aI aM))))))))))
     ·exact aU (kR rfl) (aU (kP rfl (rngsC_pure _)) (aU (kP rfl (spnsC_pure _)) (aU (kI rfl) (aU (kR rfl) (aU (kR rfl) aM)))))
    ·have hL2:L=L0++(O.take (j + 1)).filterMap (mtX u):=by rw [hfn,mtX_no hf ht hcond,List.append_nil];exact hL
     by_cases hfm:fmK u.1=fmK v.1
     ·have d1:((adOf u.1).v6 == (adOf v.1).v6)=true:=by rw [plVA hui.b1,plVA hv1,hfm];simp
      have d2:decide (cmpI f t≤0)=false:=by rw [cmpI_le];exact decide_eq_false fun h=>hcond ⟨hfm,h⟩
      refine Wq<|qW 183 196 rfl<|qF rfl ty80 rfl<|qF rfl ty36 rfl<|qL rfl ty4 rfl<|qF rfl ty80 rfl<|qF rfl ty36 rfl<|qL rfl ty4 rfl<|Od rfl rfl (LO.eql_bool rfl rfl rfl ty4)<|qM rfl<|gG rfl ‹_› ty36 rfl (Tl rfl)<|gG rfl ‹_› ty36 rfl (Tl rfl)<|gY rfl ‹_› (hcm) fok29 rfl<|gLe rfl ‹_›<|qT rfl ‹_› rfl<|Nl<|Wo rfl ‹_›<|Wu<|qW 211 213 rfl<|qZ rfl (iW _ (by omega))<|qM rfl<|Nl ?_
      rw [hjj]
      refine WL.rename [(0,0),(1,1),(2,2),(3,3),(4,4),(5,5)] 6 (by decide) ?_ ?_ (ihC ((j + 1),L) (show O.length - (j + 1) < O.length - j from by omega) (show (j + 1)≤O.length∧L.length≤bd600 k + (j + 1)∧L=L0++(O.take (j + 1)).filterMap (mtX u) from ⟨by omega,by omega,hL2⟩))
      ·exact aR (aR (aR (aR (aR (aR (aI (aI (aI (aI (aI aM))))))))))
      ·exact aU (kR rfl) (aU (kP rfl (rngsC_pure _)) (aU (kP rfl (spnsC_pure _)) (aU (kI rfl) (aU (kR rfl) (aU (kR rfl) aM)))))
     ·have d1:((adOf u.1).v6 == (adOf v.1).v6)=false:=by rw [plVA hui.b1,plVA hv1];simpa using hfm
      refine Wq<|qW 183 196 rfl<|qF rfl ty80 rfl<|qF rfl ty36 rfl<|qL rfl ty4 rfl<|qF rfl ty80 rfl<|qF rfl ty36 rfl<|qL rfl ty4 rfl<|Od rfl rfl (LO.eql_bool rfl rfl rfl ty4)<|qM rfl<|qD rfl ‹_› rfl<|qD rfl ‹_› rfl<|qD rfl ‹_› rfl<|qD rfl ‹_› rfl<|qP rfl ‹_› rfl<|Nl<|Wo rfl rfl<|Wu<|qW 211 213 rfl<|qZ rfl (iW _ (by omega))<|qM rfl<|Nl ?_
      rw [hjj]
      refine WL.rename [(0,0),(1,1),(2,2),(3,3),(4,4),(5,5)] 6 (by decide) ?_ ?_ (ihC ((j + 1),L) (show O.length - (j + 1) < O.length - j from by omega) (show (j + 1)≤O.length∧L.length≤bd600 k + (j + 1)∧L=L0++(O.take (j + 1)).filterMap (mtX u) from ⟨by omega,by omega,hL2⟩))
      ·exact aR (aR (aR (aR (aR (aR (aI (aI (aI (aI (aI aM))))))))))
      ·exact aU (kR rfl) (aU (kP rfl (rngsC_pure _)) (aU (kP rfl (spnsC_pure _)) (aU (kI rfl) (aU (kR rfl) (aU (kR rfl) aM)))))
   ·have g2:decide ((j:Int) < (O.length:Int))=false:=decide_eq_false (by omega)
    rw [List.take_of_length_le (by omega),← hnext] at hL
    clear ihC
    refine Wq<|qW 152 153 rfl<|qK rfl<|Nl<|Wq<|Wo rfl ‹_›<|Wx<|qW 217 219 rfl<|qZ rfl (iW _ (by omega))<|qM rfl<|Nl ?_
    rw [hkk]
    refine WL.rename [(0,0),(1,1),(2,2),(3,3),(4,4)] 5 (by decide) ?_ ?_ (ihB ((k + 1),L) (show bad.length - (k + 1) < bad.length - k from by omega) (show (k + 1)≤bad.length∧L.length≤bd600 (k + 1)∧L=mtR (bad.take (k + 1)) O from ⟨by omega,by omega,hL⟩))
    ·exact aR (aR (aR (aI (aI (aI (aI aM))))))
    ·exact aU (kP rfl (rngsC_pure _)) (aU (kP rfl (spnsC_pure _)) (aU (kI rfl) (aU (kR rfl) (aU (kR rfl) aM))))
  ·have g1:decide ((k:Int) < (bad.length:Int))=false:=decide_eq_false (by omega)
   rw [List.take_of_length_le (by omega)] at hL
   clear ihB
   refine Wq<|qW 131 132 rfl<|qK rfl<|Nl<|Wq<|Wo rfl ‹_›<|Wx<|Wq<|qW 223 224 rfl<|qA rfl<|Nl<|W.name 224 (224 + 1) (t:=17) (sz:=2) rfl (by decide) (by decide)<|Wq<|Wq<|qW 228 232 rfl<|qF rfl ty46 rfl<|qL rfl ty44 rfl<|qH rfl ty44<|qM rfl<|Nl<|Wv (q:=2) (j:=1) (r:=3) rfl rfl (by decide) rfl (spns_all rfl) (spnsC_pure _) (Sl rfl)<|Wb<|W.rename [(0,0),(1,1),(2,2),(3,4),(4,224)] 5 (by decide) ?_ ?_ (W.loop_ind (α:=Nat × List (Int × Int)) (fun x=>bns.length - x.1) 5 (fun x=>up (up (up (up (up (up (up mt 4 (some (.own 1 0))) 6 (some (.own 2 0))) 10 (some (.osl 3 0 L.length 6))) 17 (some (.osl 4 0 x.2.length 2))) 117 (some (.isl (spnsC bns) bns.length))) 118 (some (.base (.int .i64 (bns.length:Int))))) 119 (some (.base (.int .i64 (x.1:Int))))) (fun x=>up (up (up (up mt 1 (some ([.nils,.nils]))) 2 (some ([.isl (rngsC O) O.length,.isl (spnsC Q) Q.length]))) 3 (some (rngsC L))) 4 (some (spnsC x.2))) (fun x=>x.1≤bns.length∧x.2.length≤bd600 x.1∧x.2=mtN (bns.take x.1) Q) (0,(([]:List (Int × Int)))) (show 0≤bns.length∧(([]:List (Int × Int))).length≤bd600 0∧(([]:List (Int × Int)))=mtN (bns.take 0) Q from ⟨Nat.zero_le _,by simp,by rw [List.take_zero];rfl⟩) ?_)
   ·exact aR (aR (aR (aI (aI (aI (aI aM))))))
   ·exact aU (kR rfl) (aU (kP rfl (rngsC_pure _)) (aU (kR rfl) (aU (kR rfl) aM)))
   rintro ⟨k,M⟩ hID ihD
   try (dsimp only at hID)
   try dsimp only
   obtain ⟨hk3,hMl,hM⟩:=hID
   have hbs2:=bd600_succ k
   have hbl2:=bd600_le (k:=k) (by omega)
   by_cases hc:k < bns.length
   ·have g1:decide ((k:Int) < (bns.length:Int))=true:=decide_eq_true (by omega)
    have hkk:(k:Int) + 1=((k + 1:Nat):Int):=by omega
    have hut:=spn_tk' hc
    have hnext:mtN (bns.take (k + 1)) Q=mtN (bns.take k) Q++Q.filterMap (mtY bns[k]):=flat_next hc
    obtain ⟨u,hu⟩:∃ u,bns[k]=u:=⟨_,rfl⟩
    rw [hu] at hut hnext
    rw [← hM] at hnext
    have hfl:=filt_len (mtY u) Q
    obtain ⟨M0,hM0⟩:∃ M0,M=M0:=⟨_,rfl⟩
    rw [hM0] at hnext
    refine Wq<|qW 236 237 rfl<|qK rfl<|Nl<|Wq<|Wt rfl ‹_›<|Wu<|Wq<|Wb<|Wq<|qW 241 245 rfl<|qJ rfl rfl ty44 ty125 (by omega)<|Od rfl rfl (Lg rfl rfl ty125 rfl hut)<|qB rfl ty125<|qS rfl ty125 (Sl rfl) rfl<|Nl<|Wq<|qW 249 253 rfl<|qF rfl ty46 rfl<|qL rfl ty44 rfl<|qH rfl ty44<|qM rfl<|Nl<|Wb<|W.rename [(0,0),(1,1),(2,2),(3,3),(4,4),(5,243)] 6 (by decide) ?_ ?_ (W.loop_ind (α:=Nat × List (Int × Int)) (fun x=>Q.length - x.1) 6 (fun x=>up (up (up (up (up (up (up (up (up (up (up mt 4 (some (.own 1 0))) 6 (some (.own 2 0))) 10 (some (.osl 3 0 L.length 6))) 17 (some (.osl 4 0 x.2.length 2))) 19 (some (.own 5 0))) 117 (some (.isl (spnsC bns) bns.length))) 118 (some (.base (.int .i64 (bns.length:Int))))) 119 (some (.base (.int .i64 (k:Int))))) 124 (some (.isl (spnsC Q) Q.length))) 125 (some (.base (.int .i64 (Q.length:Int))))) 126 (some (.base (.int .i64 (x.1:Int))))) (fun x=>up (up (up (up (up mt 1 (some ([.nils,.nils]))) 2 (some ([.isl (rngsC O) O.length,.isl (spnsC Q) Q.length]))) 3 (some (rngsC L))) 4 (some (spnsC x.2))) 5 (some (spnC u))) (fun x=>x.1≤Q.length∧x.2.length≤bd600 k + x.1∧x.2=M0++(Q.take x.1).filterMap (mtY u)) (0,M) (show 0≤Q.length∧M.length≤bd600 k + 0∧M=M0++(Q.take 0).filterMap (mtY u) from ⟨Nat.zero_le _,by omega,by rw [hM0,List.take_zero];simp⟩) ?_)
    ·exact aR (aR (aR (aR (aR (aR (aI (aI (aI (aI (aI aM))))))))))
    ·exact aU (kR rfl) (aU (kP rfl (spnsC_pure _)) (aU (kP rfl (rngsC_pure _)) (aU (kR rfl) (aU (kR rfl) aM))))
    rintro ⟨j,M⟩ hIE ihE
    try (dsimp only at hIE)
    try dsimp only
    clear hMl hM hM0
    obtain ⟨hj,hMl,hM⟩:=hIE
    by_cases hcj:j < Q.length
    ·have g2:decide ((j:Int) < (Q.length:Int))=true:=decide_eq_true (by omega)
     have hjj:(j:Int) + 1=((j + 1:Nat):Int):=by omega
     have hvt:=spn_tk' hcj
     have hfn:(Q.take (j + 1)).filterMap (mtY u)=(Q.take j).filterMap (mtY u)++(mtY u Q[j]).toList:=filt_next hcj
     obtain ⟨v,hv⟩:∃ v,Q[j]=v:=⟨_,rfl⟩
     rw [hv] at hvt hfn
     refine Wq<|qW 257 258 rfl<|qK rfl<|Nl<|Wq<|Wt rfl ‹_›<|Wu<|Wq<|Wb<|Wq<|qW 262 266 rfl<|qJ rfl rfl ty44 ty125 (by omega)<|Od rfl rfl (Lg rfl rfl ty125 rfl hvt)<|qB rfl ty125<|qS rfl ty125 (Sl rfl) rfl<|Nl<|Wq<|Wd 270 282 (by decide) rfl mixed rfl<|qF rfl ty125 rfl<|qL rfl ty3 rfl<|qF rfl ty125 rfl<|qL rfl ty3 rfl<|Od rfl rfl (LO.max rfl rfl rfl)<|qF rfl ty125 rfl<|qL rfl ty3 rfl<|qF rfl ty125 rfl<|qL rfl ty3 rfl<|Od rfl rfl (LO.min rfl rfl rfl)<|qA rfl<|qA rfl<|Nl ⟨by kernel_rfl,?_⟩
     rw [max_if,min_if]
     obtain ⟨f,hf⟩:∃ f,max u.1 v.1=f:=⟨_,rfl⟩
     obtain ⟨t,ht⟩:∃ t,min u.2 v.2=t:=⟨_,rfl⟩
     have hmx:=mtY_some hf ht
     have hmn:=mtY_no hf ht
     rw [hf,ht]
     by_cases hcond:f≤t
     ·have d2:decide (f≤t)=true:=decide_eq_true hcond
      have hM2:M++[(f,t)]=M0++(Q.take (j + 1)).filterMap (mtY u):=by rw [hfn,hmx hcond,hM,List.append_assoc]
      refine Wq<|qW 286 289 rfl<|qM rfl<|qM rfl<|qLe rfl<|Nl<|Wt rfl ‹_›<|qW 293 300 rfl<|qM rfl<|qM rfl<|qM rfl<|Od rfl rfl (Bs rfl ty125 (.cons rfl rfl rfl rfl (Sl rfl) (.cons rfl rfl rfl rfl (Sl rfl) .nil)))<|Od rfl rfl (LO.buildSlice rfl ty44 ty125 (by decide) (by decide) (.cons rfl rfl rfl rfl (Sl rfl) .nil))<|Od rfl rfl (Lap rfl rfl (Sso rfl rfl (Tl rfl)) rfl (spns_all rfl) ty44 ty44 ty125 (by decide) (by omega) (by omega) (by decide))<|qA rfl<|Nl ?_
      rw [spn_snocL,show M.length + 1=(M++[(f,t)]).length from by simp]
      refine qW 304 306 rfl<|qZ rfl (iW _ (by omega))<|qM rfl<|Nl ?_
      rw [hjj]
      refine WL.rename [(0,0),(1,1),(2,2),(3,3),(4,298),(5,5)] 6 (by decide) ?_ ?_ (ihE ((j + 1),(M++[(f,t)])) (show Q.length - (j + 1) < Q.length - j from by omega) (show (j + 1)≤Q.length∧(M++[(f,t)]).length≤bd600 k + (j + 1)∧(M++[(f,t)])=M0++(Q.take (j + 1)).filterMap (mtY u) from ⟨by omega,by simp;omega,hM2⟩))
      ·exact aR (aR (aR (aR (aR (aR (aI (aI (aI (aI (aI aM))))))))))
      ·exact aU (kR rfl) (aU (kP rfl (spnsC_pure _)) (aU (kP rfl (rngsC_pure _)) (aU (kR rfl) (aU (kR rfl) aM))))
     ·have d2:decide (f≤t)=false:=decide_eq_false hcond
      have hM2:M=M0++(Q.take (j + 1)).filterMap (mtY u):=by rw [hfn,hmn hcond,List.append_nil];exact hM
      refine Wq<|qW 286 289 rfl<|qM rfl<|qM rfl<|qLe rfl<|Nl<|Wo rfl ‹_›<|Wu<|qW 304 306 rfl<|qZ rfl (iW _ (by omega))<|qM rfl<|Nl ?_
      rw [hjj]
      refine WL.rename [(0,0),(1,1),(2,2),(3,3),(4,4),(5,5)] 6 (by decide) ?_ ?_ (ihE ((j + 1),M) (show Q.length - (j + 1) < Q.length - j from by omega) (show (j + 1)≤Q.length∧M.length≤bd600 k + (j + 1)∧M=M0++(Q.take (j + 1)).filterMap (mtY u) from ⟨by omega,by omega,hM2⟩))
      ·exact aR (aR (aR (aR (aR (aR (aI (aI (aI (aI (aI aM))))))))))
      ·exact aU (kR rfl) (aU (kP rfl (spnsC_pure _)) (aU (kP rfl (rngsC_pure _)) (aU (kR rfl) (aU (kR rfl) aM))))
    ·have g2:decide ((j:Int) < (Q.length:Int))=false:=decide_eq_false (by omega)
     rw [List.take_of_length_le (by omega),← hnext] at hM
     clear ihE
     refine Wq<|qW 257 258 rfl<|qK rfl<|Nl<|Wq<|Wo rfl ‹_›<|Wx<|qW 310 312 rfl<|qZ rfl (iW _ (by omega))<|qM rfl<|Nl ?_
     rw [hkk]
     refine WL.rename [(0,0),(1,1),(2,2),(3,3),(4,4)] 5 (by decide) ?_ ?_ (ihD ((k + 1),M) (show bns.length - (k + 1) < bns.length - k from by omega) (show (k + 1)≤bns.length∧M.length≤bd600 (k + 1)∧M=mtN (bns.take (k + 1)) Q from ⟨by omega,by omega,hM⟩))
     ·exact aR (aR (aR (aI (aI (aI (aI aM))))))
     ·exact aU (kP rfl (spnsC_pure _)) (aU (kP rfl (rngsC_pure _)) (aU (kR rfl) (aU (kR rfl) aM)))
   ·have g1:decide ((k:Int) < (bns.length:Int))=false:=decide_eq_false (by omega)
    rw [List.take_of_length_le (by omega)] at hM
    clear ihD
    have hlo:=limited_ok L M
    have hle:=limited_err L M
    rw [← hL,← hM]
    by_cases hlim:L.length≤256∧M.length≤256
    ·have hli:=hlo hlim.1 hlim.2
     rw [if_pos hlim]
     unfold rscC at hli
     refine Wq<|qW 236 237 rfl<|qK rfl<|Nl<|Wq<|Wo rfl ‹_›<|Wx<|Wy (t:=10) rfl rfl (rngs_all rfl) (rngsC_pure _)<|Wy (t:=17) rfl rfl (spns_all rfl) (spnsC_pure _)<|Wq<|qW 316 323 rfl<|qM rfl<|qM rfl<|qY rfl (hli) fok75 rfl<|qX rfl<|qX rfl<|qS rfl ty46 (Sl rfl) rfl<|qA rfl<|Nl<|Wz ⟨.inl rfl,_,mt,(Rc (Ra0 rfl rfl ty46 rfl (Tl rfl)) (Rc (Rt0 rfl) Rv)),aM,?_⟩
     exact ⟨rfl,rfl⟩
    ·have hli:=hle (by omega)
     rw [if_neg hlim]
     unfold rscC at hli
     refine Wq<|qW 236 237 rfl<|qK rfl<|Nl<|Wq<|Wo rfl ‹_›<|Wx<|Wy (t:=10) rfl rfl (rngs_all rfl) (rngsC_pure _)<|Wy (t:=17) rfl rfl (spns_all rfl) (spnsC_pure _)<|Wq<|qW 316 323 rfl<|qM rfl<|qM rfl<|qY rfl (hli) fok75 rfl<|qX rfl<|qX rfl<|qS rfl ty46 (Sl rfl) rfl<|qA rfl<|Nl<|Wz ⟨.inl rfl,_,mt,(Rc (Ra0 rfl rfl ty46 rfl (Tl rfl)) (Rc (Rt0 rfl) Rv)),aM,?_⟩
     exact ⟨rfl,rfl⟩
theorem rcovers_any (a b:Rsc) (ha:RscOk a) (hb:RscOk b):AFn Tryz.prog 31 0 [.agg (rscC a),.agg (rscC b)] mt (.base (.bool (rcD a b))) mt:=by
 refine AFn.eq Tryz.func31 rfl rfl (Nat.le_of_ble_eq_true rfl) ?_
 have hm:=minus_any b a hb ha
 unfold rcD
 by_cases h:(mtR b.ad (outR a.ad)).length≤256∧(mtN b.ns (outN a.ns 0)).length≤256
 ·rw [if_pos h] at hm
  obtain ⟨L,hL⟩:∃ L,mtR b.ad (outR a.ad)=L:=⟨_,rfl⟩
  obtain ⟨M,hM⟩:∃ M,mtN b.ns (outN a.ns 0)=M:=⟨_,rfl⟩
  rw [hL,hM] at hm ⊢
  have e1:((L.length:Int) == 0)=(L.length == 0):=by cases L<;>simp;omega
  have e2:((M.length:Int) == 0)=(M.length == 0):=by cases M<;>simp;omega
  unfold rscC at hm ⊢
  dsimp only at hm ⊢
  rcases Bool.eq_false_or_eq_true (L.length == 0) with h1|h1
  ·have d1:((L.length:Int) == 0)=true:=by rw [e1,h1]
   refine Wq<|qW 0 3 rfl<|qC rfl<|qC rfl<|qA rfl<|Nl<|Wq<|qW 7 16 rfl<|qG rfl ty46 rfl (Tl rfl)<|qG rfl ty46 rfl (Tl rfl)<|qY rfl (hm) fok92 rfl<|qM rfl<|qX rfl<|qX rfl<|qB rfl ty46<|qS rfl ty46 (Sl rfl) rfl<|qA rfl<|Nl<|Wq<|qW 20 35 rfl<|qM rfl<|qE rfl<|qM rfl<|gF rfl rfl ty46 rfl<|gL rfl rfl ty43 rfl<|gH rfl rfl ty43<|gE rfl rfl<|qT rfl rfl rfl<|qM rfl<|gF rfl ‹_› ty46 rfl<|gL rfl ‹_› ty44 rfl<|gH rfl ‹_› ty44<|gE rfl ‹_›<|qT rfl ‹_› rfl<|qA rfl<|Nl<|Wz ⟨.inl rfl,_,mt,(Rc (Rt0 rfl) Rv),aM,?_⟩
   exact ⟨by rw [h1,e2];rfl,rfl⟩
  ·have d1:((L.length:Int) == 0)=false:=by rw [e1,h1]
   refine Wq<|qW 0 3 rfl<|qC rfl<|qC rfl<|qA rfl<|Nl<|Wq<|qW 7 16 rfl<|qG rfl ty46 rfl (Tl rfl)<|qG rfl ty46 rfl (Tl rfl)<|qY rfl (hm) fok92 rfl<|qM rfl<|qX rfl<|qX rfl<|qB rfl ty46<|qS rfl ty46 (Sl rfl) rfl<|qA rfl<|Nl<|Wq<|qW 20 35 rfl<|qM rfl<|qE rfl<|qM rfl<|gF rfl rfl ty46 rfl<|gL rfl rfl ty43 rfl<|gH rfl rfl ty43<|gE rfl rfl<|qT rfl rfl rfl<|qM rfl<|qD rfl ‹_› rfl<|qD rfl ‹_› rfl<|qD rfl ‹_› rfl<|qD rfl ‹_› rfl<|qP rfl ‹_› rfl<|qA rfl<|Nl<|Wz ⟨.inl rfl,_,mt,(Rc (Rt0 rfl) Rv),aM,?_⟩
   exact ⟨by rw [h1];rfl,rfl⟩
 ·rw [if_neg h] at hm
  have hf:((mtR b.ad (outR a.ad)).length == 0 && (mtN b.ns (outN a.ns 0)).length == 0)=false:=by
   rw [Bool.and_eq_false_iff]
   by_cases h1:(mtR b.ad (outR a.ad)).length≤256
   ·right;simp;intro e;exact h ⟨h1,by rw [e];simp⟩
   ·left;simp;intro e;exact h1 (by rw [e];simp)
  rw [hf]
  unfold rscC at hm ⊢
  dsimp only at hm ⊢
  refine Wq<|qW 0 3 rfl<|qC rfl<|qC rfl<|qA rfl<|Nl<|Wq<|qW 7 16 rfl<|qG rfl ty46 rfl (Tl rfl)<|qG rfl ty46 rfl (Tl rfl)<|qY rfl (hm) fok92 rfl<|qM rfl<|qX rfl<|qX rfl<|qB rfl ty46<|qS rfl ty46 (Sl rfl) rfl<|qA rfl<|Nl<|Wq<|qW 20 35 rfl<|qM rfl<|qE rfl<|qM rfl<|qD rfl rfl rfl<|qD rfl rfl rfl<|qD rfl rfl rfl<|qD rfl rfl rfl<|qP rfl rfl rfl<|qM rfl<|qD rfl rfl rfl<|qD rfl rfl rfl<|qD rfl rfl rfl<|qD rfl rfl rfl<|qP rfl rfl rfl<|qA rfl<|Nl<|Wz ⟨.inl rfl,_,mt,(Rc (Rt0 rfl) Rv),aM,?_⟩
  exact ⟨rfl,rfl⟩
set_option maxHeartbeats 1000000 in
theorem halves_any (p:Pre) (h:PreOk p) (hl:p.len < widthA p.ad):AFn Tryz.prog 38 0 [.agg (preC p)] mt (.tup [.agg (preC ⟨p.ad,p.len + 1⟩),.agg (preC ⟨upA p,p.len + 1⟩),.base (.int .i64 0)]) mt:=by
 refine AFn.eq Tryz.func38 rfl rfl (Nat.le_of_ble_eq_true rfl) ?_
 have hge:=h.ge
 have hva:=rpvalid_ok p h
 have hba:=bytesX_any p.ad h.val h.hi h.lo
 have hwa:=width_any p.ad
 have hwd:=wd_len p.ad
 have hw128:(widthA p.ad).toNat≤128:=by unfold widthA;cases p.ad.v6<;>decide
 have g1:(p.len == widthA p.ad)=false:=by simp;omega
 have hB:=addrL_isB p.ad
 have hln:=addrL_len p.ad
 have hlv:(addrL p.ad).length=4∨(addrL p.ad).length=16:=by rw [hln];cases p.ad.v6<;>simp
 have hv6:(((addrL p.ad).length:Int) == 16)=p.ad.v6:=by rw [hln];cases p.ad.v6<;>rfl
 obtain ⟨n,hn⟩:∃ n:Nat,p.len=(n:Int):=⟨p.len.toNat,by omega⟩
 have hnt:p.len.toNat=n:=by omega
 have hup:upA p=⟨p.ad.v6,(fb (chgL .or (addrL p.ad) n)).1,(fb (chgL .or (addrL p.ad) n)).2⟩:=by unfold upA;rw [hnt]
 rw [hup]
 obtain ⟨b,hb⟩:∃ b,addrL p.ad=b:=⟨_,rfl⟩
 rw [hb] at hba hB hlv hv6 hwd ⊢
 have hnb:n / 8 < b.length:=by omega
 have hq:p.len / 8=((n / 8:Nat):Int):=by omega
 have hbl:=chgs_len .or b n 1
 have hfr:=fromX_any (chgL .or b n) (chgs_isB .or b n 1 hB) (by rw [show (chgL .or b n).length=b.length from hbl];exact hlv)
 rw [show (chgL .or b n).length=b.length from hbl] at hfr
 have hset:b.set (n / 8) (bitV .or .u8 (gB b (n / 8)) ((128:Int).fdiv (2 ^ (min (p.len % 8).toNat IntKind.u8.bits))))=chgL .or b n:=by rw [hn];rfl
 refine Wq<|qW 0 4 rfl<|qC rfl<|qB rfl ty38<|qB rfl ty38<|qA rfl<|Nl<|Wq<|Wb<|Wq<|qW 8 12 rfl<|qG rfl ty38 rfl (Tl rfl)<|qY rfl (hva) fok112 rfl<|qO rfl<|qA rfl<|Nl<|Wo rfl rfl<|Wq<|Wd 25 32 (by decide) rfl mixed rfl<|qF rfl ty38 rfl<|qL rfl ty3 rfl<|qF rfl ty38 rfl<|qG rfl ty36 rfl (Tl rfl)<|qY rfl (hwa) fok113 rfl<|qE rfl<|qA rfl<|Nl ⟨by kernel_rfl,(Wo rfl ‹_›<|Wu<|Wq<|qW 45 49 rfl<|qF rfl ty38 rfl<|qG rfl ty36 rfl (Tl rfl)<|Od rfl rfl (LO.callO (fr:=[]) rfl rfl (hba) fok90 (.cons rfl (.pure rfl) .nil) (bytesC_pure _) (by decide))<|qA rfl<|Nl<|Wq<|Wd 53 67 (by decide) rfl mixed rfl<|qM rfl<|qF rfl ty38 rfl<|qL rfl ty3 rfl<|Od rfl rfl (LO.quo_in rfl rfl rfl (by omega) (by omega) (iW _ (by omega)))<|Od rfl rfl (Ia rfl rfl rfl hq ty97 ty5 hnb)<|Od rfl rfl (Ld rfl rfl rfl (by_at0 hnb) ty5 rfl)<|qF rfl ty38 rfl<|qL rfl ty3 rfl<|Od rfl rfl (LO.rem_in rfl rfl rfl (by omega) (by omega))<|Od rfl rfl (Ci rfl rfl ty3 ty151 (IntWalk.u64_in _ (by omega)))<|Od rfl rfl (LO.shr rfl rfl rfl (by omega))<|Od rfl rfl (LO.or rfl rfl rfl)<|Od rfl rfl (Ia rfl rfl rfl hq ty97 ty5 hnb)<|qS rfl ty5 (by_sp hnb) rfl<|Nl ⟨by kernel_rfl,?_⟩)⟩
 rw [hset]
 refine Wq<|qW 71 79 rfl<|qM rfl<|Od rfl rfl (C0 (fr:=[47]) rfl rfl (hfr) fok91 (.cons rfl (.one (.osl (by decide) rfl (bytes_tk hbl) (bytesC_pure _))) .nil) rfl)<|qM rfl<|qX rfl<|qX rfl<|qB rfl ty36<|qS rfl ty36 (Sl rfl) rfl<|qA rfl<|Nl<|Wq<|Wd 83 97 (by decide) rfl mixed rfl<|qF rfl ty38 rfl<|qG rfl ty36 rfl (Tl rfl)<|qF rfl ty38 rfl<|qL rfl ty3 rfl<|qZ rfl (iW _ (by omega))<|Od rfl rfl (Bs rfl ty38 (.cons rfl rfl rfl rfl (Sl rfl) (.cons rfl rfl rfl rfl (Sl rfl) .nil)))<|qG rfl ty36 rfl (Tl rfl)<|qF rfl ty38 rfl<|qL rfl ty3 rfl<|qZ rfl (iW _ (by omega))<|Od rfl rfl (Bs rfl ty38 (.cons rfl rfl rfl rfl (Sl rfl) (.cons rfl rfl rfl rfl (Sl rfl) .nil)))<|qS rfl ty38 (Sl rfl) rfl<|qS rfl ty38 (Sl rfl) rfl<|qA rfl<|Nl ⟨by kernel_rfl,(Wz ⟨.inl rfl,_,mt,(Rc (Ra0 rfl rfl ty38 rfl (Tl rfl)) (Rc (Ra0 rfl rfl ty38 rfl (Tl rfl)) (Rc (Rt0 rfl) Rv))),aM,?_⟩)⟩
 exact ⟨by rw [hv6];rfl,rfl⟩
def bdP (lo hi x1 x2:Int) (f:Nat):Nat:=if hi < x1∨x2 < lo then 0 else if x1≤lo∧hi≤x2 then 1 else if x1≤lo∨hi≤x2 then f + 1 else 2 * f + 2
theorem bdP_half {lo hi x1 x2 w:Int} {f:Nat} (_hw:0 < w) (hhi:hi=lo + 2 * w - 1) (hx:x1≤x2) (hd:¬ (hi < x1∨x2 < lo)) (hcv:¬ (x1≤lo∧hi≤x2)):bdP lo (lo + w - 1) x1 x2 f + bdP (lo + w) (lo + w + w - 1) x1 x2 f≤bdP lo hi x1 x2 (f + 1):=by
 unfold bdP
 rw [if_neg hd,if_neg hcv]
 by_cases h:x1≤lo∨hi≤x2
 ·rw [if_pos h]
  (repeat' split)<;>omega
 ·rw [if_neg h]
  (repeat' split)<;>omega
theorem bdP_le (lo hi x1 x2:Int) (f:Nat):bdP lo hi x1 x2 f≤2 * f + 2:=by
 unfold bdP
 split
 ·omega
 ·split
  ·omega
  ·split<;>omega
theorem frP_le {p:Pre}:frP p≤128:=by
 unfold frP widthA
 cases p.ad.v6<;>simp<;>omega
set_option maxHeartbeats 2000000 in
theorem divide_any:∀ (f:Nat) (p:Pre),PreOk p→frP p=f→∀ x,InF x→∃ v H',AFn Tryz.prog 78 0 [.agg (preC p),.agg (rngC x)] mt v H'∧∃ ps:List Pre,((∀ q∈ps,PreOk q)∧ps.length≤bdP (plP p).1 (plP p).2 x.1 x.2 f)∧v=.osl 0 0 ps.length 4∧H'=up mt 0 (some (presC ps)):=by
 intro f
 induction f with
 | zero =>
  intro p hp hf x hx
  refine AFn.ex Tryz.func78 rfl rfl (Nat.le_of_ble_eq_true rfl) ?_
  have hlast:=rlast_ok p hp
  obtain ⟨q1,q2,q3,q4,q5⟩:=hp.pl
  rw [hf] at q2
  have e1:(plP p).2=(plP p).1:=by rw [q2];simp
  have hc1:=rcmp_pl (plP p).2 x.1 q1.b2 hx.b1
  have hc2:=rcmp_pl x.2 (plP p).1 hx.b2 q1.b1
  have hc3:=rcmp_pl x.1 (plP p).1 hx.b1 q1.b1
  have hc4:=rcmp_pl (plP p).2 x.2 q1.b2 hx.b2
  rw [q3] at hc2 hc3
  by_cases h1:(plP p).2 < x.1
  ·have d1:decide (cmpI (plP p).2 x.1 < 0)=true:=by rw [cmpI_lt0];exact decide_eq_true h1
   refine Wq<|qW 0 3 rfl<|qC rfl<|qC rfl<|qA rfl<|Nl<|Wq<|qW 7 11 rfl<|qG rfl ty38 rfl (Tl rfl)<|qY rfl (hlast) fok30 rfl<|qB rfl ty36<|qS rfl ty36 (Sl rfl) rfl<|Nl<|Wq<|Wq<|qW 15 28 rfl<|qG rfl ty36 rfl (Tl rfl)<|qF rfl ty80 rfl<|qG rfl ty36 rfl (Tl rfl)<|qY rfl (hc1) fok29 rfl<|qK rfl<|qM rfl<|qD rfl ‹_› rfl<|qD rfl ‹_› rfl<|qD rfl ‹_› rfl<|qD rfl ‹_› rfl<|qD rfl ‹_› rfl<|qD rfl ‹_› rfl<|qT rfl ‹_› rfl<|Nl<|Wt rfl rfl<|Wq<|qW 32 33 rfl<|qA rfl<|Nl<|W.name 33 (33 + 1) (t:=4) (sz:=4) rfl (by decide) (by decide)<|W.rename [(0,33)] 1 (T':=up mt 4 (some (.osl 0 0 0 4))) (H':=up mt 0 (some [])) (by decide) ?_ ?_ ?_
   ·exact aI aM
   ·exact aU (kR rfl) aM
   refine Wz ⟨.inl rfl,_,(up mt 0 (some [])),(Rc (Rt0 rfl) Rv),(aU rfl aM),?_⟩
   exact ⟨[],⟨fun q h=>absurd h List.not_mem_nil,Nat.zero_le _⟩,rfl,rfl⟩
  ·have d1:decide (cmpI (plP p).2 x.1 < 0)=false:=by rw [cmpI_lt0];exact decide_eq_false h1
   by_cases h2:x.2 < (plP p).1
   ·have d2:decide (cmpI x.2 (plP p).1 < 0)=true:=by rw [cmpI_lt0];exact decide_eq_true h2
    refine Wq<|qW 0 3 rfl<|qC rfl<|qC rfl<|qA rfl<|Nl<|Wq<|qW 7 11 rfl<|qG rfl ty38 rfl (Tl rfl)<|qY rfl (hlast) fok30 rfl<|qB rfl ty36<|qS rfl ty36 (Sl rfl) rfl<|Nl<|Wq<|Wq<|qW 15 28 rfl<|qG rfl ty36 rfl (Tl rfl)<|qF rfl ty80 rfl<|qG rfl ty36 rfl (Tl rfl)<|qY rfl (hc1) fok29 rfl<|qK rfl<|qM rfl<|gF rfl ‹_› ty80 rfl<|gG rfl ‹_› ty36 rfl (Tl rfl)<|gF rfl ‹_› ty38 rfl<|gG rfl ‹_› ty36 rfl (Tl rfl)<|gY rfl ‹_› (hc2) fok29 rfl<|gK rfl ‹_›<|qP rfl ‹_› rfl<|Nl<|Wt rfl ‹_›<|Wq<|qW 32 33 rfl<|qA rfl<|Nl<|W.name 33 (33 + 1) (t:=4) (sz:=4) rfl (by decide) (by decide)<|W.rename [(0,33)] 1 (T':=up mt 4 (some (.osl 0 0 0 4))) (H':=up mt 0 (some [])) (by decide) ?_ ?_ ?_
    ·exact aI aM
    ·exact aU (kR rfl) aM
    refine Wz ⟨.inl rfl,_,(up mt 0 (some [])),(Rc (Rt0 rfl) Rv),(aU rfl aM),?_⟩
    exact ⟨[],⟨fun q h=>absurd h List.not_mem_nil,Nat.zero_le _⟩,rfl,rfl⟩
   ·have d2:decide (cmpI x.2 (plP p).1 < 0)=false:=by rw [cmpI_lt0];exact decide_eq_false h2
    have d3:decide (cmpI x.1 (plP p).1≤0)=true:=by rw [cmpI_le];exact decide_eq_true (by omega)
    have d4:decide (cmpI (plP p).2 x.2≤0)=true:=by rw [cmpI_le];exact decide_eq_true (by omega)
    refine Wq<|qW 0 3 rfl<|qC rfl<|qC rfl<|qA rfl<|Nl<|Wq<|qW 7 11 rfl<|qG rfl ty38 rfl (Tl rfl)<|qY rfl (hlast) fok30 rfl<|qB rfl ty36<|qS rfl ty36 (Sl rfl) rfl<|Nl<|Wq<|Wq<|qW 15 28 rfl<|qG rfl ty36 rfl (Tl rfl)<|qF rfl ty80 rfl<|qG rfl ty36 rfl (Tl rfl)<|qY rfl (hc1) fok29 rfl<|qK rfl<|qM rfl<|gF rfl ‹_› ty80 rfl<|gG rfl ‹_› ty36 rfl (Tl rfl)<|gF rfl ‹_› ty38 rfl<|gG rfl ‹_› ty36 rfl (Tl rfl)<|gY rfl ‹_› (hc2) fok29 rfl<|gK rfl ‹_›<|qP rfl ‹_› rfl<|Nl<|Wo rfl ‹_›<|Wu<|Wq<|Wq<|qW 37 50 rfl<|qF rfl ty80 rfl<|qG rfl ty36 rfl (Tl rfl)<|qF rfl ty38 rfl<|qG rfl ty36 rfl (Tl rfl)<|qY rfl (hc3) fok29 rfl<|qLe rfl<|qM rfl<|gG rfl ‹_› ty36 rfl (Tl rfl)<|gF rfl ‹_› ty80 rfl<|gG rfl ‹_› ty36 rfl (Tl rfl)<|gY rfl ‹_› (hc4) fok29 rfl<|gLe rfl ‹_›<|qT rfl ‹_› rfl<|Nl<|Wt rfl ‹_›<|Wq<|qW 54 57 rfl<|qG rfl ty38 rfl (Tl rfl)<|Od rfl rfl (LO.buildSlice rfl ty54 ty38 (by decide) (by decide) (.cons rfl rfl rfl rfl (Sl rfl) .nil))<|qA rfl<|Nl<|W.rename [(0,55)] 1 (T':=up mt 4 (some (.osl 0 0 1 4))) (H':=up mt 0 (some (preC p))) (by decide) ?_ ?_ ?_
    ·exact aI aM
    ·exact aU (kR rfl) aM
    refine Wz ⟨.inl rfl,_,(up mt 0 (some (preC p))),(Rc (Rt0 rfl) Rv),(aU rfl aM),?_⟩
    exact ⟨[p],⟨fun q h=>by rw [List.mem_singleton] at h;rw [h];exact hp,by unfold bdP;rw [if_neg (by omega),if_pos (by omega)];exact Nat.le_refl _⟩,rfl,rfl⟩
 | succ f ih =>
  intro p hp hf x hx
  refine AFn.ex Tryz.func78 rfl rfl (Nat.le_of_ble_eq_true rfl) ?_
  have hlast:=rlast_ok p hp
  obtain ⟨q1,q2,q3,q4,q5⟩:=hp.pl
  have hc1:=rcmp_pl (plP p).2 x.1 q1.b2 hx.b1
  have hc2:=rcmp_pl x.2 (plP p).1 hx.b2 q1.b1
  have hc3:=rcmp_pl x.1 (plP p).1 hx.b1 q1.b1
  have hc4:=rcmp_pl (plP p).2 x.2 q1.b2 hx.b2
  rw [q3] at hc2 hc3
  by_cases h1:(plP p).2 < x.1
  ·have d1:decide (cmpI (plP p).2 x.1 < 0)=true:=by rw [cmpI_lt0];exact decide_eq_true h1
   refine Wq<|qW 0 3 rfl<|qC rfl<|qC rfl<|qA rfl<|Nl<|Wq<|qW 7 11 rfl<|qG rfl ty38 rfl (Tl rfl)<|qY rfl (hlast) fok30 rfl<|qB rfl ty36<|qS rfl ty36 (Sl rfl) rfl<|Nl<|Wq<|Wq<|qW 15 28 rfl<|qG rfl ty36 rfl (Tl rfl)<|qF rfl ty80 rfl<|qG rfl ty36 rfl (Tl rfl)<|qY rfl (hc1) fok29 rfl<|qK rfl<|qM rfl<|qD rfl ‹_› rfl<|qD rfl ‹_› rfl<|qD rfl ‹_› rfl<|qD rfl ‹_› rfl<|qD rfl ‹_› rfl<|qD rfl ‹_› rfl<|qT rfl ‹_› rfl<|Nl<|Wt rfl rfl<|Wq<|qW 32 33 rfl<|qA rfl<|Nl<|W.name 33 (33 + 1) (t:=4) (sz:=4) rfl (by decide) (by decide)<|W.rename [(0,33)] 1 (T':=up mt 4 (some (.osl 0 0 0 4))) (H':=up mt 0 (some [])) (by decide) ?_ ?_ ?_
   ·exact aI aM
   ·exact aU (kR rfl) aM
   refine Wz ⟨.inl rfl,_,(up mt 0 (some [])),(Rc (Rt0 rfl) Rv),(aU rfl aM),?_⟩
   exact ⟨[],⟨fun q h=>absurd h List.not_mem_nil,Nat.zero_le _⟩,rfl,rfl⟩
  ·have d1:decide (cmpI (plP p).2 x.1 < 0)=false:=by rw [cmpI_lt0];exact decide_eq_false h1
   by_cases h2:x.2 < (plP p).1
   ·have d2:decide (cmpI x.2 (plP p).1 < 0)=true:=by rw [cmpI_lt0];exact decide_eq_true h2
    refine Wq<|qW 0 3 rfl<|qC rfl<|qC rfl<|qA rfl<|Nl<|Wq<|qW 7 11 rfl<|qG rfl ty38 rfl (Tl rfl)<|qY rfl (hlast) fok30 rfl<|qB rfl ty36<|qS rfl ty36 (Sl rfl) rfl<|Nl<|Wq<|Wq<|qW 15 28 rfl<|qG rfl ty36 rfl (Tl rfl)<|qF rfl ty80 rfl<|qG rfl ty36 rfl (Tl rfl)<|qY rfl (hc1) fok29 rfl<|qK rfl<|qM rfl<|gF rfl ‹_› ty80 rfl<|gG rfl ‹_› ty36 rfl (Tl rfl)<|gF rfl ‹_› ty38 rfl<|gG rfl ‹_› ty36 rfl (Tl rfl)<|gY rfl ‹_› (hc2) fok29 rfl<|gK rfl ‹_›<|qP rfl ‹_› rfl<|Nl<|Wt rfl ‹_›<|Wq<|qW 32 33 rfl<|qA rfl<|Nl<|W.name 33 (33 + 1) (t:=4) (sz:=4) rfl (by decide) (by decide)<|W.rename [(0,33)] 1 (T':=up mt 4 (some (.osl 0 0 0 4))) (H':=up mt 0 (some [])) (by decide) ?_ ?_ ?_
    ·exact aI aM
    ·exact aU (kR rfl) aM
    refine Wz ⟨.inl rfl,_,(up mt 0 (some [])),(Rc (Rt0 rfl) Rv),(aU rfl aM),?_⟩
    exact ⟨[],⟨fun q h=>absurd h List.not_mem_nil,Nat.zero_le _⟩,rfl,rfl⟩
   ·have d2:decide (cmpI x.2 (plP p).1 < 0)=false:=by rw [cmpI_lt0];exact decide_eq_false h2
    by_cases h3:x.1≤(plP p).1∧(plP p).2≤x.2
    ·have d3:decide (cmpI x.1 (plP p).1≤0)=true:=by rw [cmpI_le];exact decide_eq_true h3.1
     have d4:decide (cmpI (plP p).2 x.2≤0)=true:=by rw [cmpI_le];exact decide_eq_true h3.2
     refine Wq<|qW 0 3 rfl<|qC rfl<|qC rfl<|qA rfl<|Nl<|Wq<|qW 7 11 rfl<|qG rfl ty38 rfl (Tl rfl)<|qY rfl (hlast) fok30 rfl<|qB rfl ty36<|qS rfl ty36 (Sl rfl) rfl<|Nl<|Wq<|Wq<|qW 15 28 rfl<|qG rfl ty36 rfl (Tl rfl)<|qF rfl ty80 rfl<|qG rfl ty36 rfl (Tl rfl)<|qY rfl (hc1) fok29 rfl<|qK rfl<|qM rfl<|gF rfl ‹_› ty80 rfl<|gG rfl ‹_› ty36 rfl (Tl rfl)<|gF rfl ‹_› ty38 rfl<|gG rfl ‹_› ty36 rfl (Tl rfl)<|gY rfl ‹_› (hc2) fok29 rfl<|gK rfl ‹_›<|qP rfl ‹_› rfl<|Nl<|Wo rfl ‹_›<|Wu<|Wq<|Wq<|qW 37 50 rfl<|qF rfl ty80 rfl<|qG rfl ty36 rfl (Tl rfl)<|qF rfl ty38 rfl<|qG rfl ty36 rfl (Tl rfl)<|qY rfl (hc3) fok29 rfl<|qLe rfl<|qM rfl<|gG rfl ‹_› ty36 rfl (Tl rfl)<|gF rfl ‹_› ty80 rfl<|gG rfl ‹_› ty36 rfl (Tl rfl)<|gY rfl ‹_› (hc4) fok29 rfl<|gLe rfl ‹_›<|qT rfl ‹_› rfl<|Nl<|Wt rfl ‹_›<|Wq<|qW 54 57 rfl<|qG rfl ty38 rfl (Tl rfl)<|Od rfl rfl (LO.buildSlice rfl ty54 ty38 (by decide) (by decide) (.cons rfl rfl rfl rfl (Sl rfl) .nil))<|qA rfl<|Nl<|W.rename [(0,55)] 1 (T':=up mt 4 (some (.osl 0 0 1 4))) (H':=up mt 0 (some (preC p))) (by decide) ?_ ?_ ?_
     ·exact aI aM
     ·exact aU (kR rfl) aM
     refine Wz ⟨.inl rfl,_,(up mt 0 (some (preC p))),(Rc (Rt0 rfl) Rv),(aU rfl aM),?_⟩
     exact ⟨[p],⟨fun q h=>by rw [List.mem_singleton] at h;rw [h];exact hp,by unfold bdP;rw [if_neg (by omega),if_pos h3];exact Nat.le_refl _⟩,rfl,rfl⟩
    ·have hpl:p.len < widthA p.ad:=by
      have hge:=hp.ge
      unfold frP at hf
      omega
     obtain ⟨k1,k2,k3,k4,k5,k6,k7⟩:=hp.halves hpl
     have hha:=halves_any p hp hpl
     rw [hf] at k4 k6 k7
     rw [Nat.add_sub_cancel] at k4 k6 k7
     obtain ⟨_,_,hA,ps,⟨hps,hpn⟩,rfl,rfl⟩:=ih _ k1 k6 x hx
     obtain ⟨_,_,hB,qs,⟨hqs,hqn⟩,rfl,rfl⟩:=ih _ k2 k7 x hx
     obtain ⟨w,hw⟩:∃ w:Int,(2:Int) ^ f=w:=⟨_,rfl⟩
     have hw0:0 < w:=by
      have:=Nat.two_pow_pos f
      have e:((2 ^ f:Nat):Int)=(2:Int) ^ f:=by simp
      omega
     have a1:=k1.pl.2.1
     have b1:=k2.pl.2.1
     rw [k6,hw] at a1
     rw [k7,hw] at b1
     have a0:(plP ⟨p.ad,p.len + 1⟩).1=(plP p).1:=rfl
     have b0:(plP ⟨upA p,p.len + 1⟩).1=(plP p).1 + w:=by rw [← hw];exact k4
     rw [a1,a0] at hpn
     rw [b1,b0] at hqn
     have q2':(plP p).2=(plP p).1 + 2 * w - 1:=by rw [q2,hf,Int.pow_succ,hw];omega
     have hbd:=bdP_half (f:=f) hw0 q2' hx.1.1 (by omega) h3
     have hbl:=bdP_le (plP p).1 (plP p).2 x.1 x.2 (f + 1)
     have hf128:f + 1≤128:=by rw [← hf];exact frP_le
     have hall:∀ q∈ps++qs,PreOk q:=fun q h=>by
      rcases List.mem_append.1 h with h|h
      ·exact hps q h
      ·exact hqs q h
     have hfin:(ps++qs).length≤bdP (plP p).1 (plP p).2 x.1 x.2 (f + 1):=by rw [List.length_append];omega
     have hcase:(decide (cmpI x.1 (plP p).1≤0)=true∧decide (cmpI (plP p).2 x.2≤0)=false)∨decide (cmpI x.1 (plP p).1≤0)=false:=by
      rw [cmpI_le,cmpI_le]
      by_cases h4:x.1≤(plP p).1
      ·exact .inl ⟨decide_eq_true h4,decide_eq_false fun h=>h3 ⟨h4,h⟩⟩
      ·exact .inr (decide_eq_false h4)
     rcases hcase with ⟨d3,d4⟩|d3
     case' inl =>
      refine Wq<|qW 0 3 rfl<|qC rfl<|qC rfl<|qA rfl<|Nl<|Wq<|qW 7 11 rfl<|qG rfl ty38 rfl (Tl rfl)<|qY rfl (hlast) fok30 rfl<|qB rfl ty36<|qS rfl ty36 (Sl rfl) rfl<|Nl<|Wq<|Wq<|qW 15 28 rfl<|qG rfl ty36 rfl (Tl rfl)<|qF rfl ty80 rfl<|qG rfl ty36 rfl (Tl rfl)<|qY rfl (hc1) fok29 rfl<|qK rfl<|qM rfl<|gF rfl ‹_› ty80 rfl<|gG rfl ‹_› ty36 rfl (Tl rfl)<|gF rfl ‹_› ty38 rfl<|gG rfl ‹_› ty36 rfl (Tl rfl)<|gY rfl ‹_› (hc2) fok29 rfl<|gK rfl ‹_›<|qP rfl ‹_› rfl<|Nl<|Wo rfl ‹_›<|Wu<|Wq<|Wq<|qW 37 50 rfl<|qF rfl ty80 rfl<|qG rfl ty36 rfl (Tl rfl)<|qF rfl ty38 rfl<|qG rfl ty36 rfl (Tl rfl)<|qY rfl (hc3) fok29 rfl<|qLe rfl<|qM rfl<|gG rfl ‹_› ty36 rfl (Tl rfl)<|gF rfl ‹_› ty80 rfl<|gG rfl ‹_› ty36 rfl (Tl rfl)<|gY rfl ‹_› (hc4) fok29 rfl<|gLe rfl ‹_›<|qT rfl ‹_› rfl<|Nl<|Wo rfl ‹_›<|Wu ?_
     case' inr =>
      refine Wq<|qW 0 3 rfl<|qC rfl<|qC rfl<|qA rfl<|Nl<|Wq<|qW 7 11 rfl<|qG rfl ty38 rfl (Tl rfl)<|qY rfl (hlast) fok30 rfl<|qB rfl ty36<|qS rfl ty36 (Sl rfl) rfl<|Nl<|Wq<|Wq<|qW 15 28 rfl<|qG rfl ty36 rfl (Tl rfl)<|qF rfl ty80 rfl<|qG rfl ty36 rfl (Tl rfl)<|qY rfl (hc1) fok29 rfl<|qK rfl<|qM rfl<|gF rfl ‹_› ty80 rfl<|gG rfl ‹_› ty36 rfl (Tl rfl)<|gF rfl ‹_› ty38 rfl<|gG rfl ‹_› ty36 rfl (Tl rfl)<|gY rfl ‹_› (hc2) fok29 rfl<|gK rfl ‹_›<|qP rfl ‹_› rfl<|Nl<|Wo rfl ‹_›<|Wu<|Wq<|Wq<|qW 37 50 rfl<|qF rfl ty80 rfl<|qG rfl ty36 rfl (Tl rfl)<|qF rfl ty38 rfl<|qG rfl ty36 rfl (Tl rfl)<|qY rfl (hc3) fok29 rfl<|qLe rfl<|qM rfl<|qD rfl ‹_› rfl<|qD rfl ‹_› rfl<|qD rfl ‹_› rfl<|qD rfl ‹_› rfl<|qD rfl ‹_› rfl<|qP rfl ‹_› rfl<|Nl<|Wo rfl rfl<|Wu ?_
     all_goals
      repeat (refine Wq ?_)
      refine qW 61 72 rfl<|qG rfl ty38 rfl (Tl rfl)<|qY rfl (hha) fok38 rfl<|qM rfl<|qX rfl<|qX rfl<|qX rfl<|qB rfl ty38<|qB rfl ty38<|qS rfl ty38 (Sl rfl) rfl<|qS rfl ty38 (Sl rfl) rfl<|qA rfl<|Nl ?_
      repeat (refine Wq ?_)
      refine Wd 76 84 (by decide) rfl mixed rfl<|qG rfl ty38 rfl (Tl rfl)<|qG rfl ty80 rfl (Tl rfl)<|Od rfl rfl (LO.callO (fr:=[]) rfl rfl (hA) fok78 (.cons rfl (.pure rfl) (.cons rfl (.pure rfl) .nil)) (presC_pure _) (by decide))<|qG rfl ty38 rfl (Tl rfl)<|qG rfl ty80 rfl (Tl rfl)<|Od rfl rfl (LO.callO (fr:=[]) rfl rfl (hB) fok78 (.cons rfl (.pure rfl) (.cons rfl (.pure rfl) .nil)) (presC_pure _) (by decide))<|Od rfl rfl (Lap rfl rfl (Sso rfl rfl (pres_all rfl)) rfl (pres_all rfl) ty54 ty54 ty38 (by decide) (by omega) (by omega) (by decide))<|qA rfl<|Nl ⟨by kernel_rfl,?_⟩
      rw [← presC_app,show ps.length + qs.length=(ps++qs).length from by simp]
      refine W.rename [(0,82)] 1 (T':=up mt 4 (some (.osl 0 0 (ps++qs).length 4))) (H':=up mt 0 (some (presC (ps++qs)))) (by decide) ?_ ?_ ?_
      ·exact aI aM
      ·exact aU (kP rfl (presC_pure _)) aM
      refine Wz ⟨.inl rfl,_,(up mt 0 (some (presC (ps++qs)))),(Rc (Rt0 rfl) Rv),(aU rfl aM),?_⟩
      exact ⟨ps++qs,⟨hall,hfin⟩,rfl,rfl⟩
end Go.Proofs.YtbfnfgpjgdbmeaaGreatDoor
