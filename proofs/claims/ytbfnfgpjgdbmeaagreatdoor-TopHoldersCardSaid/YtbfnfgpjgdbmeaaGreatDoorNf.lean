/-
  What two resources have in common; whether resources hold a prefix.
-/
import Derived.Test.YtbfnfgpjgdbmeaaGreatDoorNe
import Derived.Test.YtbfnfgpjgdbmeaaGreatDoorMab
namespace Go.Proofs.YtbfnfgpjgdbmeaaGreatDoor
open Go.RowKit
def bd256 (k:Nat):Nat:=k * 256
theorem bd256_succ (k:Nat):bd256 (k + 1)=bd256 k + 256:=by unfold bd256;omega
theorem bd256_le {k:Nat} (h:k≤256):bd256 k≤65536:=by unfold bd256;omega
set_option maxHeartbeats 4000000 in
theorem inter_any (a b:Rsc) (ha:RscOk a) (hb:RscOk b):∃ v H',AFn Tryz.prog 23 0 [.agg (rscC a),.agg (rscC b)] mt v H'∧∃ (r:Rsc) (e:Int),RscOk r∧v=.tup [.agg (rscC r),.base (.int .i64 e)]∧H'=mt:=by
 refine AFn.ex Tryz.func23 rfl rfl (Nat.le_of_ble_eq_true rfl) ?_
 have hva:=rsvalid_any a ha
 have hvb:=rsvalid_any b hb
 obtain ⟨_,aai,aal,_,ani,anl⟩:=ha
 obtain ⟨_,bai,bal,_,bni,bnl⟩:=hb
 obtain ⟨aad,ans⟩:=a
 obtain ⟨bad,bns⟩:=b
 dsimp only at aai aal ani anl bai bal bni bnl
 unfold rscC at hva hvb ⊢
 dsimp only at hva hvb ⊢
 refine Wq<|qW 0 4 rfl<|qC rfl<|qC rfl<|qB rfl ty46<|qA rfl<|Nl<|Wq<|Wq<|qW 8 16 rfl<|qG rfl ty46 rfl (Tl rfl)<|qY rfl (hva) fok72 rfl<|qO rfl<|qM rfl<|gG rfl rfl ty46 rfl (Tl rfl)<|gY rfl rfl (hvb) fok72 rfl<|gO rfl rfl<|qP rfl rfl rfl<|Nl<|Wo rfl rfl<|Wu<|Wq<|qW 27 28 rfl<|qA rfl<|Nl<|W.name 28 (28 + 1) (t:=6) (sz:=6) rfl (by decide) (by decide)<|Wq<|Wq<|qW 32 36 rfl<|qF rfl ty46 rfl<|qL rfl ty43 rfl<|qH rfl ty43<|qM rfl<|Nl<|Wb<|W.rename [(0,0),(1,1),(2,2),(3,28)] 4 (by decide) ?_ ?_ (W.loop_ind (α:=Nat × List (Int × Int)) (fun x=>aad.length - x.1) 4 (fun x=>up (up (up (up (up (up (up mt 2 (some (.own 0 0))) 3 (some (.own 1 0))) 4 (some (.own 2 0))) 6 (some (.osl 3 0 x.2.length 6))) 30 (some (.isl (rngsC aad) aad.length))) 31 (some (.base (.int .i64 (aad.length:Int))))) 32 (some (.base (.int .i64 (x.1:Int))))) (fun x=>up (up (up (up mt 0 (some ([.isl (rngsC aad) aad.length,.isl (spnsC ans) ans.length]))) 1 (some ([.isl (rngsC bad) bad.length,.isl (spnsC bns) bns.length]))) 2 (some ([.nils,.nils]))) 3 (some (rngsC x.2))) (fun x=>x.1≤aad.length∧x.2.length≤bd256 x.1∧∀ z∈x.2,InF z) (0,(([]:List (Int × Int)))) (show 0≤aad.length∧(([]:List (Int × Int))).length≤bd256 0∧∀ z∈(([]:List (Int × Int))),InF z from ⟨Nat.zero_le _,by simp,fun x h=>absurd h List.not_mem_nil⟩) ?_)
 ·exact aR (aR (aR (aI (aI (aI (aI aM))))))
 ·exact aU (kR rfl) (aU (kR rfl) (aU (kR rfl) (aU (kR rfl) aM)))
 rintro ⟨k,L⟩ hIA ihA
 try (dsimp only at hIA)
 try dsimp only
 obtain ⟨hk,hLl,hLi⟩:=hIA
 have hbs:=bd256_succ k
 have hbl:=bd256_le (k:=k) (by omega)
 by_cases hc:k < aad.length
 ·have g1:decide ((k:Int) < (aad.length:Int))=true:=decide_eq_true (by omega)
  have hkk:(k:Int) + 1=((k + 1:Nat):Int):=by omega
  have hut:=rng_tk' hc
  have hui:=aai aad[k] (List.getElem_mem hc)
  obtain ⟨u,hu⟩:∃ u,aad[k]=u:=⟨_,rfl⟩
  rw [hu] at hut hui
  refine Wq<|qW 40 41 rfl<|qK rfl<|Nl<|Wq<|Wt rfl ‹_›<|Wu<|Wq<|Wb<|Wq<|qW 45 49 rfl<|qJ rfl rfl ty43 ty80 (by omega)<|Od rfl rfl (Lg rfl rfl ty80 rfl hut)<|qB rfl ty80<|qS rfl ty80 (Sl rfl) rfl<|Nl<|Wq<|qW 53 57 rfl<|qF rfl ty46 rfl<|qL rfl ty43 rfl<|qH rfl ty43<|qM rfl<|Nl<|Wb<|W.rename [(0,0),(1,1),(2,2),(3,3),(4,47)] 5 (by decide) ?_ ?_ (W.loop_ind (α:=Nat × List (Int × Int)) (fun x=>bad.length - x.1) 5 (fun x=>up (up (up (up (up (up (up (up (up (up (up mt 2 (some (.own 0 0))) 3 (some (.own 1 0))) 4 (some (.own 2 0))) 6 (some (.osl 3 0 x.2.length 6))) 8 (some (.own 4 0))) 30 (some (.isl (rngsC aad) aad.length))) 31 (some (.base (.int .i64 (aad.length:Int))))) 32 (some (.base (.int .i64 (k:Int))))) 37 (some (.isl (rngsC bad) bad.length))) 38 (some (.base (.int .i64 (bad.length:Int))))) 39 (some (.base (.int .i64 (x.1:Int))))) (fun x=>up (up (up (up (up mt 0 (some ([.isl (rngsC aad) aad.length,.isl (spnsC ans) ans.length]))) 1 (some ([.isl (rngsC bad) bad.length,.isl (spnsC bns) bns.length]))) 2 (some ([.nils,.nils]))) 3 (some (rngsC x.2))) 4 (some (rngC u))) (fun x=>x.1≤bad.length∧x.2.length≤bd256 k + x.1∧∀ z∈x.2,InF z) (0,L) (show 0≤bad.length∧L.length≤bd256 k + 0∧∀ z∈L,InF z from ⟨Nat.zero_le _,by omega,hLi⟩) ?_)
  ·exact aR (aR (aR (aR (aR (aR (aI (aI (aI (aI (aI aM))))))))))
  ·exact aU (kR rfl) (aU (kP rfl (rngsC_pure _)) (aU (kR rfl) (aU (kR rfl) (aU (kR rfl) aM))))
  rintro ⟨j,L⟩ hIB ihB
  try (dsimp only at hIB)
  try dsimp only
  clear hLl hLi
  obtain ⟨hj,hLl,hLi⟩:=hIB
  by_cases hcj:j < bad.length
  ·have g2:decide ((j:Int) < (bad.length:Int))=true:=decide_eq_true (by omega)
   have hjj:(j:Int) + 1=((j + 1:Nat):Int):=by omega
   have hvt:=rng_tk' hcj
   have hvi:=bai bad[j] (List.getElem_mem hcj)
   obtain ⟨v,hv⟩:∃ v,bad[j]=v:=⟨_,rfl⟩
   rw [hv] at hvt hvi
   have hgr:=greater_pl u.1 v.1 hui.b1 hvi.b1
   have hle:=lesser_pl u.2 v.2 hui.b2 hvi.b2
   have hb1:0≤max u.1 v.1∧max u.1 v.1 < topK:=by have:=hui.b1;have:=hvi.b1;omega
   have hb2:0≤min u.2 v.2∧min u.2 v.2 < topK:=by have:=hui.b2;have:=hvi.b2;omega
   have hcm:=rcmp_pl (max u.1 v.1) (min u.2 v.2) hb1 hb2
   have hin:=fun h=>mtX_in (z:=(max u.1 v.1,min u.2 v.2)) hui hvi h
   obtain ⟨f,hf⟩:∃ f,max u.1 v.1=f:=⟨_,rfl⟩
   obtain ⟨t,ht⟩:∃ t,min u.2 v.2=t:=⟨_,rfl⟩
   have hmx:fmK u.1=fmK v.1→f≤t→mtX u v=some (f,t):=fun h1 h2=>by unfold mtX;rw [hf,ht,if_pos ⟨h1,h2⟩]
   rw [hf] at hgr hcm hin
   rw [ht] at hle hcm hin
   refine Wq<|qW 61 62 rfl<|qK rfl<|Nl<|Wq<|Wt rfl ‹_›<|Wu<|Wq<|Wb<|Wq<|qW 66 70 rfl<|qJ rfl rfl ty43 ty80 (by omega)<|Od rfl rfl (Lg rfl rfl ty80 rfl hvt)<|qB rfl ty80<|qS rfl ty80 (Sl rfl) rfl<|Nl<|Wq<|Wd 74 88 (by decide) rfl mixed rfl<|qF rfl ty80 rfl<|qG rfl ty36 rfl (Tl rfl)<|qF rfl ty80 rfl<|qG rfl ty36 rfl (Tl rfl)<|qY rfl (hgr) fok73 rfl<|qF rfl ty80 rfl<|qG rfl ty36 rfl (Tl rfl)<|qF rfl ty80 rfl<|qG rfl ty36 rfl (Tl rfl)<|qY rfl (hle) fok74 rfl<|qB rfl ty36<|qB rfl ty36<|qS rfl ty36 (Sl rfl) rfl<|qS rfl ty36 (Sl rfl) rfl<|Nl ⟨by kernel_rfl,?_⟩
   by_cases hcond:fmK u.1=fmK v.1∧f≤t
   ·have d1:((adOf u.1).v6 == (adOf v.1).v6)=true:=by rw [plVA hui.b1,plVA hvi.b1,hcond.1];simp
    have d2:decide (cmpI f t≤0)=true:=by rw [cmpI_le];exact decide_eq_true hcond.2
    have hzi:=hin (hmx hcond.1 hcond.2)
    refine Wq<|qW 92 105 rfl<|qF rfl ty80 rfl<|qF rfl ty36 rfl<|qL rfl ty4 rfl<|qF rfl ty80 rfl<|qF rfl ty36 rfl<|qL rfl ty4 rfl<|Od rfl rfl (LO.eql_bool rfl rfl rfl ty4)<|qM rfl<|gG rfl ‹_› ty36 rfl (Tl rfl)<|gG rfl ‹_› ty36 rfl (Tl rfl)<|gY rfl ‹_› (hcm) fok29 rfl<|gLe rfl ‹_›<|qT rfl ‹_› rfl<|Nl<|Wt rfl ‹_›<|qW 109 116 rfl<|qM rfl<|qG rfl ty36 rfl (Tl rfl)<|qG rfl ty36 rfl (Tl rfl)<|Od rfl rfl (Bs rfl ty80 (.cons rfl rfl rfl rfl (Sl rfl) (.cons rfl rfl rfl rfl (Sl rfl) .nil)))<|Od rfl rfl (LO.buildSlice rfl ty43 ty80 (by decide) (by decide) (.cons rfl rfl rfl rfl (Sl rfl) .nil))<|Od rfl rfl (Lap rfl rfl (Sso rfl rfl (Tl rfl)) rfl (rngs_all rfl) ty43 ty43 ty80 (by decide) (by omega) (by omega) (by decide))<|qA rfl<|Nl ?_
    rw [rng_snocA (k:=f) rfl,show L.length + 1=(L++[(f,t)]).length from by simp]
    refine qW 120 122 rfl<|qZ rfl (iW _ (by omega))<|qM rfl<|Nl ?_
    rw [hjj]
    refine WL.rename [(0,0),(1,1),(2,2),(3,114),(4,4)] 5 (by decide) ?_ ?_ (ihB ((j + 1),(L++[(f,t)])) (show bad.length - (j + 1) < bad.length - j from by omega) (show (j + 1)≤bad.length∧(L++[(f,t)]).length≤bd256 k + (j + 1)∧∀ z∈(L++[(f,t)]),InF z from ⟨by omega,by simp;omega,memR hLi hzi⟩))
    ·exact aR (aR (aR (aR (aR (aR (aI (aI (aI (aI (aI aM))))))))))
    ·exact aU (kR rfl) (aU (kP rfl (rngsC_pure _)) (aU (kR rfl) (aU (kR rfl) (aU (kR rfl) aM))))
   ·by_cases hfm:fmK u.1=fmK v.1
    ·have d1:((adOf u.1).v6 == (adOf v.1).v6)=true:=by rw [plVA hui.b1,plVA hvi.b1,hfm];simp
     have d2:decide (cmpI f t≤0)=false:=by rw [cmpI_le];exact decide_eq_false fun h=>hcond ⟨hfm,h⟩
     refine Wq<|qW 92 105 rfl<|qF rfl ty80 rfl<|qF rfl ty36 rfl<|qL rfl ty4 rfl<|qF rfl ty80 rfl<|qF rfl ty36 rfl<|qL rfl ty4 rfl<|Od rfl rfl (LO.eql_bool rfl rfl rfl ty4)<|qM rfl<|gG rfl ‹_› ty36 rfl (Tl rfl)<|gG rfl ‹_› ty36 rfl (Tl rfl)<|gY rfl ‹_› (hcm) fok29 rfl<|gLe rfl ‹_›<|qT rfl ‹_› rfl<|Nl<|Wo rfl ‹_›<|Wu<|qW 120 122 rfl<|qZ rfl (iW _ (by omega))<|qM rfl<|Nl ?_
     rw [hjj]
     refine WL.rename [(0,0),(1,1),(2,2),(3,3),(4,4)] 5 (by decide) ?_ ?_ (ihB ((j + 1),L) (show bad.length - (j + 1) < bad.length - j from by omega) (show (j + 1)≤bad.length∧L.length≤bd256 k + (j + 1)∧∀ z∈L,InF z from ⟨by omega,by omega,hLi⟩))
     ·exact aR (aR (aR (aR (aR (aR (aI (aI (aI (aI (aI aM))))))))))
     ·exact aU (kR rfl) (aU (kP rfl (rngsC_pure _)) (aU (kR rfl) (aU (kR rfl) (aU (kR rfl) aM))))
    ·have d1:((adOf u.1).v6 == (adOf v.1).v6)=false:=by rw [plVA hui.b1,plVA hvi.b1];simpa using hfm
     refine Wq<|qW 92 105 rfl<|qF rfl ty80 rfl<|qF rfl ty36 rfl<|qL rfl ty4 rfl<|qF rfl ty80 rfl<|qF rfl ty36 rfl<|qL rfl ty4 rfl<|Od rfl rfl (LO.eql_bool rfl rfl rfl ty4)<|qM rfl<|qD rfl ‹_› rfl<|qD rfl ‹_› rfl<|qD rfl ‹_› rfl<|qD rfl ‹_› rfl<|qP rfl ‹_› rfl<|Nl<|Wo rfl rfl<|Wu<|qW 120 122 rfl<|qZ rfl (iW _ (by omega))<|qM rfl<|Nl ?_
     rw [hjj]
     refine WL.rename [(0,0),(1,1),(2,2),(3,3),(4,4)] 5 (by decide) ?_ ?_ (ihB ((j + 1),L) (show bad.length - (j + 1) < bad.length - j from by omega) (show (j + 1)≤bad.length∧L.length≤bd256 k + (j + 1)∧∀ z∈L,InF z from ⟨by omega,by omega,hLi⟩))
     ·exact aR (aR (aR (aR (aR (aR (aI (aI (aI (aI (aI aM))))))))))
     ·exact aU (kR rfl) (aU (kP rfl (rngsC_pure _)) (aU (kR rfl) (aU (kR rfl) (aU (kR rfl) aM))))
  ·have g2:decide ((j:Int) < (bad.length:Int))=false:=decide_eq_false (by omega)
   clear ihB
   refine Wq<|qW 61 62 rfl<|qK rfl<|Nl<|Wq<|Wo rfl ‹_›<|Wx<|qW 126 128 rfl<|qZ rfl (iW _ (by omega))<|qM rfl<|Nl ?_
   rw [hkk]
   refine WL.rename [(0,0),(1,1),(2,2),(3,3)] 4 (by decide) ?_ ?_ (ihA ((k + 1),L) (show aad.length - (k + 1) < aad.length - k from by omega) (show (k + 1)≤aad.length∧L.length≤bd256 (k + 1)∧∀ z∈L,InF z from ⟨by omega,by omega,hLi⟩))
   ·exact aR (aR (aR (aI (aI (aI (aI aM))))))
   ·exact aU (kP rfl (rngsC_pure _)) (aU (kR rfl) (aU (kR rfl) (aU (kR rfl) aM)))
 ·have g1:decide ((k:Int) < (aad.length:Int))=false:=decide_eq_false (by omega)
  clear ihA
  refine Wq<|qW 40 41 rfl<|qK rfl<|Nl<|Wq<|Wo rfl ‹_›<|Wx<|Wq<|qW 132 133 rfl<|qA rfl<|Nl<|W.name 133 (133 + 1) (t:=13) (sz:=2) rfl (by decide) (by decide)<|Wq<|Wq<|qW 137 141 rfl<|qF rfl ty46 rfl<|qL rfl ty44 rfl<|qH rfl ty44<|qM rfl<|Nl<|Wb<|W.rename [(0,0),(1,1),(2,2),(3,3),(4,133)] 5 (by decide) ?_ ?_ (W.loop_ind (α:=Nat × List (Int × Int)) (fun x=>ans.length - x.1) 5 (fun x=>up (up (up (up (up (up (up mt 3 (some (.own 1 0))) 4 (some (.own 2 0))) 6 (some (.osl 3 0 L.length 6))) 13 (some (.osl 4 0 x.2.length 2))) 75 (some (.isl (spnsC ans) ans.length))) 76 (some (.base (.int .i64 (ans.length:Int))))) 77 (some (.base (.int .i64 (x.1:Int))))) (fun x=>up (up (up (up mt 1 (some ([.isl (rngsC bad) bad.length,.isl (spnsC bns) bns.length]))) 2 (some ([.nils,.nils]))) 3 (some (rngsC L))) 4 (some (spnsC x.2))) (fun x=>x.1≤ans.length∧x.2.length≤bd256 x.1∧∀ z∈x.2,InN z) (0,(([]:List (Int × Int)))) (show 0≤ans.length∧(([]:List (Int × Int))).length≤bd256 0∧∀ z∈(([]:List (Int × Int))),InN z from ⟨Nat.zero_le _,by simp,fun x h=>absurd h List.not_mem_nil⟩) ?_)
  ·exact aR (aR (aR (aI (aI (aI (aI aM))))))
  ·exact aU (kR rfl) (aU (kP rfl (rngsC_pure _)) (aU (kR rfl) (aU (kR rfl) aM)))
  rintro ⟨k,M⟩ hIC ihC
  try (dsimp only at hIC)
  try dsimp only
  obtain ⟨hk2,hMl,hMi⟩:=hIC
  have hbs2:=bd256_succ k
  have hbl2:=bd256_le (k:=k) (by omega)
  by_cases hc:k < ans.length
  ·have g1:decide ((k:Int) < (ans.length:Int))=true:=decide_eq_true (by omega)
   have hkk:(k:Int) + 1=((k + 1:Nat):Int):=by omega
   have hut:=spn_tk' hc
   have hui:=ani ans[k] (List.getElem_mem hc)
   obtain ⟨u,hu⟩:∃ u,ans[k]=u:=⟨_,rfl⟩
   rw [hu] at hut hui
   refine Wq<|qW 145 146 rfl<|qK rfl<|Nl<|Wq<|Wt rfl ‹_›<|Wu<|Wq<|Wb<|Wq<|qW 150 154 rfl<|qJ rfl rfl ty44 ty125 (by omega)<|Od rfl rfl (Lg rfl rfl ty125 rfl hut)<|qB rfl ty125<|qS rfl ty125 (Sl rfl) rfl<|Nl<|Wq<|qW 158 162 rfl<|qF rfl ty46 rfl<|qL rfl ty44 rfl<|qH rfl ty44<|qM rfl<|Nl<|Wb<|W.rename [(0,0),(1,1),(2,2),(3,3),(4,4),(5,152)] 6 (by decide) ?_ ?_ (W.loop_ind (α:=Nat × List (Int × Int)) (fun x=>bns.length - x.1) 6 (fun x=>up (up (up (up (up (up (up (up (up (up (up mt 3 (some (.own 1 0))) 4 (some (.own 2 0))) 6 (some (.osl 3 0 L.length 6))) 13 (some (.osl 4 0 x.2.length 2))) 15 (some (.own 5 0))) 75 (some (.isl (spnsC ans) ans.length))) 76 (some (.base (.int .i64 (ans.length:Int))))) 77 (some (.base (.int .i64 (k:Int))))) 82 (some (.isl (spnsC bns) bns.length))) 83 (some (.base (.int .i64 (bns.length:Int))))) 84 (some (.base (.int .i64 (x.1:Int))))) (fun x=>up (up (up (up (up mt 1 (some ([.isl (rngsC bad) bad.length,.isl (spnsC bns) bns.length]))) 2 (some ([.nils,.nils]))) 3 (some (rngsC L))) 4 (some (spnsC x.2))) 5 (some (spnC u))) (fun x=>x.1≤bns.length∧x.2.length≤bd256 k + x.1∧∀ z∈x.2,InN z) (0,M) (show 0≤bns.length∧M.length≤bd256 k + 0∧∀ z∈M,InN z from ⟨Nat.zero_le _,by omega,hMi⟩) ?_)
   ·exact aR (aR (aR (aR (aR (aR (aI (aI (aI (aI (aI aM))))))))))
   ·exact aU (kR rfl) (aU (kP rfl (spnsC_pure _)) (aU (kP rfl (rngsC_pure _)) (aU (kR rfl) (aU (kR rfl) aM))))
   rintro ⟨j,M⟩ hID ihD
   try (dsimp only at hID)
   try dsimp only
   clear hMl hMi
   obtain ⟨hj,hMl,hMi⟩:=hID
   by_cases hcj:j < bns.length
   ·have g2:decide ((j:Int) < (bns.length:Int))=true:=decide_eq_true (by omega)
    have hjj:(j:Int) + 1=((j + 1:Nat):Int):=by omega
    have hvt:=spn_tk' hcj
    have hvi:=bni bns[j] (List.getElem_mem hcj)
    obtain ⟨v,hv⟩:∃ v,bns[j]=v:=⟨_,rfl⟩
    rw [hv] at hvt hvi
    have hin:=fun h=>mtY_in (z:=(max u.1 v.1,min u.2 v.2)) hui hvi h
    refine Wq<|qW 166 167 rfl<|qK rfl<|Nl<|Wq<|Wt rfl ‹_›<|Wu<|Wq<|Wb<|Wq<|qW 171 175 rfl<|qJ rfl rfl ty44 ty125 (by omega)<|Od rfl rfl (Lg rfl rfl ty125 rfl hvt)<|qB rfl ty125<|qS rfl ty125 (Sl rfl) rfl<|Nl<|Wq<|Wd 179 191 (by decide) rfl mixed rfl<|qF rfl ty125 rfl<|qL rfl ty3 rfl<|qF rfl ty125 rfl<|qL rfl ty3 rfl<|Od rfl rfl (LO.max rfl rfl rfl)<|qF rfl ty125 rfl<|qL rfl ty3 rfl<|qF rfl ty125 rfl<|qL rfl ty3 rfl<|Od rfl rfl (LO.min rfl rfl rfl)<|qA rfl<|qA rfl<|Nl ⟨by kernel_rfl,?_⟩
    rw [max_if,min_if]
    obtain ⟨f,hf⟩:∃ f,max u.1 v.1=f:=⟨_,rfl⟩
    obtain ⟨t,ht⟩:∃ t,min u.2 v.2=t:=⟨_,rfl⟩
    have hmx:f≤t→mtY u v=some (f,t):=fun h2=>by unfold mtY;rw [hf,ht,if_pos h2]
    rw [hf,ht] at hin ⊢
    by_cases hcond:f≤t
    ·have d2:decide (f≤t)=true:=decide_eq_true hcond
     have hzi:=hin (hmx hcond)
     refine Wq<|qW 195 198 rfl<|qM rfl<|qM rfl<|qLe rfl<|Nl<|Wt rfl ‹_›<|qW 202 209 rfl<|qM rfl<|qM rfl<|qM rfl<|Od rfl rfl (Bs rfl ty125 (.cons rfl rfl rfl rfl (Sl rfl) (.cons rfl rfl rfl rfl (Sl rfl) .nil)))<|Od rfl rfl (LO.buildSlice rfl ty44 ty125 (by decide) (by decide) (.cons rfl rfl rfl rfl (Sl rfl) .nil))<|Od rfl rfl (Lap rfl rfl (Sso rfl rfl (Tl rfl)) rfl (spns_all rfl) ty44 ty44 ty125 (by decide) (by omega) (by omega) (by decide))<|qA rfl<|Nl ?_
     rw [spn_snocL,show M.length + 1=(M++[(f,t)]).length from by simp]
     refine qW 213 215 rfl<|qZ rfl (iW _ (by omega))<|qM rfl<|Nl ?_
     rw [hjj]
     refine WL.rename [(0,0),(1,1),(2,2),(3,3),(4,207),(5,5)] 6 (by decide) ?_ ?_ (ihD ((j + 1),(M++[(f,t)])) (show bns.length - (j + 1) < bns.length - j from by omega) (show (j + 1)≤bns.length∧(M++[(f,t)]).length≤bd256 k + (j + 1)∧∀ z∈(M++[(f,t)]),InN z from ⟨by omega,by simp;omega,memR hMi hzi⟩))
     ·exact aR (aR (aR (aR (aR (aR (aI (aI (aI (aI (aI aM))))))))))
     ·exact aU (kR rfl) (aU (kP rfl (spnsC_pure _)) (aU (kP rfl (rngsC_pure _)) (aU (kR rfl) (aU (kR rfl) aM))))
    ·have d2:decide (f≤t)=false:=decide_eq_false hcond
     refine Wq<|qW 195 198 rfl<|qM rfl<|qM rfl<|qLe rfl<|Nl<|Wo rfl ‹_›<|Wu<|qW 213 215 rfl<|qZ rfl (iW _ (by omega))<|qM rfl<|Nl ?_
     rw [hjj]
     refine WL.rename [(0,0),(1,1),(2,2),(3,3),(4,4),(5,5)] 6 (by decide) ?_ ?_ (ihD ((j + 1),M) (show bns.length - (j + 1) < bns.length - j from by omega) (show (j + 1)≤bns.length∧M.length≤bd256 k + (j + 1)∧∀ z∈M,InN z from ⟨by omega,by omega,hMi⟩))
     ·exact aR (aR (aR (aR (aR (aR (aI (aI (aI (aI (aI aM))))))))))
     ·exact aU (kR rfl) (aU (kP rfl (spnsC_pure _)) (aU (kP rfl (rngsC_pure _)) (aU (kR rfl) (aU (kR rfl) aM))))
   ·have g2:decide ((j:Int) < (bns.length:Int))=false:=decide_eq_false (by omega)
    clear ihD
    refine Wq<|qW 166 167 rfl<|qK rfl<|Nl<|Wq<|Wo rfl ‹_›<|Wx<|qW 219 221 rfl<|qZ rfl (iW _ (by omega))<|qM rfl<|Nl ?_
    rw [hkk]
    refine WL.rename [(0,0),(1,1),(2,2),(3,3),(4,4)] 5 (by decide) ?_ ?_ (ihC ((k + 1),M) (show ans.length - (k + 1) < ans.length - k from by omega) (show (k + 1)≤ans.length∧M.length≤bd256 (k + 1)∧∀ z∈M,InN z from ⟨by omega,by omega,hMi⟩))
    ·exact aR (aR (aR (aI (aI (aI (aI aM))))))
    ·exact aU (kP rfl (spnsC_pure _)) (aU (kP rfl (rngsC_pure _)) (aU (kR rfl) (aU (kR rfl) aM)))
  ·have g1:decide ((k:Int) < (ans.length:Int))=false:=decide_eq_false (by omega)
   clear ihC
   have hra:=ranges_any L hLi (by omega)
   have hsa:=spans_any M hMi (by omega)
   obtain ⟨r,e,hr,hli⟩:=limited_any L M hLi hMi
   unfold rscC at hli
   refine Wq<|qW 145 146 rfl<|qK rfl<|Nl<|Wq<|Wo rfl ‹_›<|Wx<|Wy (t:=6) rfl rfl (rngs_all rfl) (rngsC_pure _)<|Wy (t:=13) rfl rfl (spns_all rfl) (spnsC_pure _)<|Wq<|qW 225 234 rfl<|qM rfl<|qY rfl (hra) fok76 rfl<|qM rfl<|qY rfl (hsa) fok77 rfl<|qY rfl (hli) fok75 rfl<|qX rfl<|qX rfl<|qS rfl ty46 (Sl rfl) rfl<|qA rfl<|Nl<|Wz ⟨.inl rfl,_,mt,(Rc (Ra0 rfl rfl ty46 rfl (Tl rfl)) (Rc (Rt0 rfl) Rv)),aM,?_⟩
   exact ⟨r,e,hr,rfl,rfl⟩
theorem has_fam {x:Int × Int} {lo hi:Int} (hx:InF x) (h1:x.1≤lo) (h2:lo≤hi) (h3:hi≤x.2):fmK x.1=fmK lo:=by
 have:=hx.1.2
 unfold fmK at this ⊢
 by_cases c1:4294967296≤x.1
 ·rw [decide_eq_true c1,decide_eq_true (by omega:4294967296≤lo)]
 ·rw [decide_eq_false c1] at this ⊢
  have:¬ 4294967296≤x.2:=of_decide_eq_false this.symm
  rw [decide_eq_false (by omega:¬ 4294967296≤lo)]
theorem hasR_drop {l:List (Int × Int)} {k:Nat} (h:k < l.length) {lo hi:Int} {b:Bool} (hb:(decide (l[k].1≤lo) && decide (hi≤l[k].2))=b):hasR (l.drop k) lo hi=(b || hasR (l.drop (k + 1)) lo hi):=by
 rw [List.drop_eq_getElem_cons h,← hb];rfl
set_option maxHeartbeats 2000000 in
theorem rhas_any (r:Rsc) (hr:RscOk r) (p:Pre) (hp:PreOk p):AFn Tryz.prog 10 0 [.agg (rscC r),.agg (preC p)] mt (.base (.bool (hasR r.ad (plP p).1 (plP p).2))) mt:=by
 refine AFn.eq Tryz.func10 rfl rfl (Nat.le_of_ble_eq_true rfl) ?_
 obtain ⟨_,rai,ral,_,_,_⟩:=hr
 obtain ⟨ad,ns⟩:=r
 dsimp only at rai ral
 unfold rscC
 dsimp only
 have hlast:=rlast_ok p hp
 obtain ⟨q1,q2,q3,q4,q5⟩:=hp.pl
 refine Wq<|qW 0 3 rfl<|qC rfl<|qC rfl<|qA rfl<|Nl<|Wq<|Wq<|qW 7 11 rfl<|qF rfl ty46 rfl<|qL rfl ty43 rfl<|qH rfl ty43<|qM rfl<|Nl<|Wb<|W.rename [(0,1)] 1 (by decide) ?_ ?_ (W.loop_ind (α:=Nat) (fun x=>ad.length - x) 1 (fun x=>up (up (up (up mt 3 (some (.own 0 0))) 8 (some (.isl (rngsC ad) ad.length))) 9 (some (.base (.int .i64 (ad.length:Int))))) 10 (some (.base (.int .i64 (x:Int))))) (fun x=>up mt 0 (some (preC p))) (fun x=>x≤ad.length∧hasR (ad.drop x) (plP p).1 (plP p).2=hasR ad (plP p).1 (plP p).2) 0 (show 0≤ad.length∧hasR (ad.drop 0) (plP p).1 (plP p).2=hasR ad (plP p).1 (plP p).2 from ⟨Nat.zero_le _,rfl⟩) ?_)
 ·exact aR (aR (aR (aI aM)))
 ·exact aU (kR rfl) aM
 rintro k hIA ihA
 try (dsimp only at hIA)
 try dsimp only
 obtain ⟨hk,hh⟩:=hIA
 by_cases hc:k < ad.length
 ·have g1:decide ((k:Int) < (ad.length:Int))=true:=decide_eq_true (by omega)
  have hkk:(k:Int) + 1=((k + 1:Nat):Int):=by omega
  have hut:=rng_tk' hc
  have hui:=rai ad[k] (List.getElem_mem hc)
  have hdr:=fun b=>hasR_drop hc (lo:=(plP p).1) (hi:=(plP p).2) (b:=b)
  obtain ⟨u,hu⟩:∃ u,ad[k]=u:=⟨_,rfl⟩
  rw [hu] at hut hui hdr
  have hc1:=rcmp_pl u.1 (plP p).1 hui.b1 q1.b1
  have hc2:=rcmp_pl (plP p).2 u.2 q1.b2 hui.b2
  rw [q3] at hc1
  refine Wq<|qW 15 16 rfl<|qK rfl<|Nl<|Wq<|Wt rfl ‹_›<|Wu<|Wq<|Wb<|Wq<|qW 20 24 rfl<|qJ rfl rfl ty43 ty80 (by omega)<|Od rfl rfl (Lg rfl rfl ty80 rfl hut)<|qB rfl ty80<|qS rfl ty80 (Sl rfl) rfl<|Nl ?_
  by_cases hf:fmK u.1=p.ad.v6
  ·have d1:((adOf u.1).v6 == p.ad.v6)=true:=by rw [plVA hui.b1,hf];simp
   by_cases h1:u.1≤(plP p).1
   ·have d2:decide (cmpI u.1 (plP p).1≤0)=true:=by rw [cmpI_le];exact decide_eq_true h1
    by_cases h2:(plP p).2≤u.2
    ·have d3:decide (cmpI (plP p).2 u.2≤0)=true:=by rw [cmpI_le];exact decide_eq_true h2
     have hb:=hdr true (by rw [decide_eq_true h1,decide_eq_true h2];rfl)
     refine Wq<|Wd 28 51 (by decide) rfl mixed rfl<|qF rfl ty80 rfl<|qF rfl ty36 rfl<|qL rfl ty4 rfl<|qF rfl ty38 rfl<|qF rfl ty36 rfl<|qL rfl ty4 rfl<|Od rfl rfl (LO.eql_bool rfl rfl rfl ty4)<|qM rfl<|gF rfl ‹_› ty80 rfl<|gG rfl ‹_› ty36 rfl (Tl rfl)<|gF rfl ‹_› ty38 rfl<|gG rfl ‹_› ty36 rfl (Tl rfl)<|gY rfl ‹_› (hc1) fok29 rfl<|gLe rfl ‹_›<|qT rfl ‹_› rfl<|qM rfl<|gG rfl ‹_› ty38 rfl (Tl rfl)<|gY rfl ‹_› (hlast) fok30 rfl<|gF rfl ‹_› ty80 rfl<|gG rfl ‹_› ty36 rfl (Tl rfl)<|gY rfl ‹_› (hc2) fok29 rfl<|gLe rfl ‹_›<|qT rfl ‹_› rfl<|Nl ⟨by kernel_rfl,(Wt rfl ‹_›<|Wq<|qW 55 56 rfl<|qA rfl<|Nl<|Wz ⟨.inl rfl,_,mt,(Rc (Rt0 rfl) Rv),aM,?_⟩)⟩
     exact ⟨by rw [← hh,hb];rfl,rfl⟩
    ·have d3:decide (cmpI (plP p).2 u.2≤0)=false:=by rw [cmpI_le];exact decide_eq_false h2
     have hb:=hdr false (by rw [decide_eq_true h1,decide_eq_false h2];rfl)
     refine Wq<|Wd 28 51 (by decide) rfl mixed rfl<|qF rfl ty80 rfl<|qF rfl ty36 rfl<|qL rfl ty4 rfl<|qF rfl ty38 rfl<|qF rfl ty36 rfl<|qL rfl ty4 rfl<|Od rfl rfl (LO.eql_bool rfl rfl rfl ty4)<|qM rfl<|gF rfl ‹_› ty80 rfl<|gG rfl ‹_› ty36 rfl (Tl rfl)<|gF rfl ‹_› ty38 rfl<|gG rfl ‹_› ty36 rfl (Tl rfl)<|gY rfl ‹_› (hc1) fok29 rfl<|gLe rfl ‹_›<|qT rfl ‹_› rfl<|qM rfl<|gG rfl ‹_› ty38 rfl (Tl rfl)<|gY rfl ‹_› (hlast) fok30 rfl<|gF rfl ‹_› ty80 rfl<|gG rfl ‹_› ty36 rfl (Tl rfl)<|gY rfl ‹_› (hc2) fok29 rfl<|gLe rfl ‹_›<|qT rfl ‹_› rfl<|Nl ⟨by kernel_rfl,(Wo rfl ‹_›<|Wu<|qW 60 62 rfl<|qZ rfl (iW _ (by omega))<|qM rfl<|Nl ?_)⟩
     rw [hkk]
     refine WL.rename [(0,0)] 1 (by decide) ?_ ?_ (ihA (k + 1) (show ad.length - (k + 1) < ad.length - k from by omega) (show (k + 1)≤ad.length∧hasR (ad.drop (k + 1)) (plP p).1 (plP p).2=hasR ad (plP p).1 (plP p).2 from ⟨by omega,by rw [← hh,hb];rfl⟩))
     ·exact aR (aR (aR (aI aM)))
     ·exact aU (kR rfl) aM
   ·have d2:decide (cmpI u.1 (plP p).1≤0)=false:=by rw [cmpI_le];exact decide_eq_false h1
    have hb:=hdr false (by rw [decide_eq_false h1];rfl)
    refine Wq<|Wd 28 51 (by decide) rfl mixed rfl<|qF rfl ty80 rfl<|qF rfl ty36 rfl<|qL rfl ty4 rfl<|qF rfl ty38 rfl<|qF rfl ty36 rfl<|qL rfl ty4 rfl<|Od rfl rfl (LO.eql_bool rfl rfl rfl ty4)<|qM rfl<|gF rfl ‹_› ty80 rfl<|gG rfl ‹_› ty36 rfl (Tl rfl)<|gF rfl ‹_› ty38 rfl<|gG rfl ‹_› ty36 rfl (Tl rfl)<|gY rfl ‹_› (hc1) fok29 rfl<|gLe rfl ‹_›<|qT rfl ‹_› rfl<|qM rfl<|qD rfl ‹_› rfl<|qD rfl ‹_› rfl<|qD rfl ‹_› rfl<|qD rfl ‹_› rfl<|qD rfl ‹_› rfl<|qD rfl ‹_› rfl<|qP rfl ‹_› rfl<|Nl ⟨by kernel_rfl,(Wo rfl rfl<|Wu<|qW 60 62 rfl<|qZ rfl (iW _ (by omega))<|qM rfl<|Nl ?_)⟩
    rw [hkk]
    refine WL.rename [(0,0)] 1 (by decide) ?_ ?_ (ihA (k + 1) (show ad.length - (k + 1) < ad.length - k from by omega) (show (k + 1)≤ad.length∧hasR (ad.drop (k + 1)) (plP p).1 (plP p).2=hasR ad (plP p).1 (plP p).2 from ⟨by omega,by rw [← hh,hb];rfl⟩))
    ·exact aR (aR (aR (aI aM)))
    ·exact aU (kR rfl) aM
  ·have d1:((adOf u.1).v6 == p.ad.v6)=false:=by rw [plVA hui.b1];simpa using hf
   have hb:=hdr false (by
    by_cases h1:u.1≤(plP p).1
    ·by_cases h2:(plP p).2≤u.2
     ·exact absurd ((has_fam hui h1 q1.1.1 h2).trans q5) hf
     ·rw [decide_eq_false h2,Bool.and_false]
    ·rw [decide_eq_false h1];rfl)
   refine Wq<|Wd 28 51 (by decide) rfl mixed rfl<|qF rfl ty80 rfl<|qF rfl ty36 rfl<|qL rfl ty4 rfl<|qF rfl ty38 rfl<|qF rfl ty36 rfl<|qL rfl ty4 rfl<|Od rfl rfl (LO.eql_bool rfl rfl rfl ty4)<|qM rfl<|qD rfl ‹_› rfl<|qD rfl ‹_› rfl<|qD rfl ‹_› rfl<|qD rfl ‹_› rfl<|qD rfl ‹_› rfl<|qD rfl ‹_› rfl<|qP rfl ‹_› rfl<|qM rfl<|qD rfl rfl rfl<|qD rfl rfl rfl<|qD rfl rfl rfl<|qD rfl rfl rfl<|qD rfl rfl rfl<|qD rfl rfl rfl<|qP rfl rfl rfl<|Nl ⟨by kernel_rfl,(Wo rfl rfl<|Wu<|qW 60 62 rfl<|qZ rfl (iW _ (by omega))<|qM rfl<|Nl ?_)⟩
   rw [hkk]
   refine WL.rename [(0,0)] 1 (by decide) ?_ ?_ (ihA (k + 1) (show ad.length - (k + 1) < ad.length - k from by omega) (show (k + 1)≤ad.length∧hasR (ad.drop (k + 1)) (plP p).1 (plP p).2=hasR ad (plP p).1 (plP p).2 from ⟨by omega,by rw [← hh,hb];rfl⟩))
   ·exact aR (aR (aR (aI aM)))
   ·exact aU (kR rfl) aM
 ·have g1:decide ((k:Int) < (ad.length:Int))=false:=decide_eq_false (by omega)
  rw [List.drop_of_length_le (by omega)] at hh
  refine Wq<|qW 15 16 rfl<|qK rfl<|Nl<|Wq<|Wo rfl ‹_›<|Wx<|Wq<|qW 66 67 rfl<|qA rfl<|Nl<|Wz ⟨.inl rfl,_,mt,(Rc (Rt0 rfl) Rv),aM,?_⟩
  exact ⟨by rw [← hh];rfl,rfl⟩
end Go.Proofs.YtbfnfgpjgdbmeaaGreatDoor
