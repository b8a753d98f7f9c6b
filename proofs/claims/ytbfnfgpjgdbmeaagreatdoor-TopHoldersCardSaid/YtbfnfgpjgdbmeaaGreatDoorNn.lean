/-
  What is left of sets without others: the program's functions.
-/
import Derived.Test.YtbfnfgpjgdbmeaaGreatDoorNm
import Derived.Test.YtbfnfgpjgdbmeaaGreatDoorVw
import Derived.Test.YtbfnfgpjgdbmeaaGreatDoorMab
namespace Go.Proofs.YtbfnfgpjgdbmeaaGreatDoor
open Go.RowKit
set_option maxHeartbeats 4000000 in
theorem minusA_any (a b:List (Int × Int)) (hai:∀ z∈a,InF z) (hbi:∀ z∈b,InF z) (hal:a.length≤256) (hbl:b.length≤256):AFn Tryz.prog 288 0 [.agg ordA,.isl (rngsC a) a.length,.isl (rngsC b) b.length] mt (.isl (rngsC (minR a b)) (minR a b).length) mt:=by
 refine AFn.eq Tryz.func288 rfl rfl (Nat.le_of_ble_eq_true rfl)<|Wq<|qW 0 2 rfl<|qC rfl<|qA rfl<|Nl<|Wq<|qW 6 7 rfl<|qA rfl<|Nl<|W.name 7 (7 + 1) (t:=7) (sz:=6) rfl (by decide) (by decide)<|Wq<|Wq<|qW 11 14 rfl<|qM rfl<|qH rfl ty127<|qM rfl<|Nl<|Wb<|W.rename [(0,0),(1,7)] 2 (by decide) ?_ ?_ (W.loop_ind (α:=Nat × List (Int × Int)) (fun x=>a.length - x.1) 2 (fun x=>up (up (up (up (up (up mt 2 (some (.isl (rngsC b) b.length))) 3 (some (.own 0 0))) 7 (some (.osl 1 0 x.2.length 6))) 17 (some (.isl (rngsC a) a.length))) 18 (some (.base (.int .i64 (a.length:Int))))) 19 (some (.base (.int .i64 (x.1:Int))))) (fun x=>up (up mt 0 (some (ordA))) 1 (some (rngsC x.2))) (fun x=>x.1≤a.length∧x.2.length≤bd600 x.1∧x.2=minR (a.take x.1) b) (0,(([]:List (Int × Int)))) (show 0≤a.length∧(([]:List (Int × Int))).length≤bd600 0∧(([]:List (Int × Int)))=minR (a.take 0) b from ⟨Nat.zero_le _,by simp,by rw [List.take_zero];rfl⟩) ?_)
 ·exact aR (aR (aR (aI (aI (aR aM)))))
 ·exact aU (kR rfl) (aU (kR rfl) aM)
 rintro ⟨k,o⟩ hIA ihA
 try (dsimp only at hIA)
 try dsimp only
 obtain ⟨hk,hol,ho⟩:=hIA
 have hbs:=bd600_succ k
 have hbl6:=bd600_le (k:=k) (by omega)
 by_cases hc:k < a.length
 ·have g1:decide ((k:Int) < (a.length:Int))=true:=decide_eq_true (by omega)
  have hkk:(k:Int) + 1=((k + 1:Nat):Int):=by omega
  have hut:=rng_tk' hc
  have hui:=hai a[k] (List.getElem_mem hc)
  have hnext:minR (a.take (k + 1)) b=minR (a.take k) b++mnX nxK pvK a[k].1 a[k].2 b:=flat_next hc
  obtain ⟨⟨f0,t⟩,hu⟩:∃ u,a[k]=u:=⟨_,rfl⟩
  rw [hu] at hut hui hnext
  have hf0:=hui.b1
  have htb:=hui.b2
  rw [← ho] at hnext
  dsimp only at hnext hf0 htb
  obtain ⟨Z,hZ⟩:∃ Z,o++mnX nxK pvK f0 t b=Z:=⟨_,rfl⟩
  rw [hZ] at hnext
  obtain ⟨ol,hole⟩:∃ n,o.length=n:=⟨_,rfl⟩
  refine Wq<|qW 18 19 rfl<|qK rfl<|Nl<|Wq<|Wt rfl ‹_›<|Wu<|Wq<|Wb<|Wq<|qW 23 27 rfl<|qJ rfl rfl ty127 ty217 (by omega)<|Od rfl rfl (Lg rfl rfl ty217 rfl hut)<|qB rfl ty217<|qS rfl ty217 (Sl rfl) rfl<|Nl<|Wq<|qW 31 32 rfl<|qA rfl<|Nl<|Wq<|Wq<|qW 36 39 rfl<|qM rfl<|qH rfl ty127<|qM rfl<|Nl<|Wb<|W.rename [(0,0),(1,1),(2,25)] 3 (by decide) ?_ ?_ (W.loop_ind (α:=Nat × Int × List (Int × Int)) (fun x=>b.length - x.1) 3 (fun x=>up (up (up (up (up (up (up (up (up (up (up mt 2 (some (.isl (rngsC b) b.length))) 3 (some (.own 0 0))) 7 (some (.osl 1 0 x.2.2.length 6))) 9 (some (.own 2 0))) 10 (some (.base (.bool true)))) 17 (some (.isl (rngsC a) a.length))) 18 (some (.base (.int .i64 (a.length:Int))))) 19 (some (.base (.int .i64 (k:Int))))) 23 (some (.isl (rngsC b) b.length))) 24 (some (.base (.int .i64 (b.length:Int))))) 25 (some (.base (.int .i64 (x.1:Int))))) (fun x=>up (up (up mt 0 (some (ordA))) 1 (some (rngsC x.2.2))) 2 (some (rngC (x.2.1,t)))) (fun x=>x.1≤b.length∧x.2.2.length≤ol + x.1∧(0≤x.2.1∧x.2.1 < topK)∧x.2.2++mnX nxK pvK x.2.1 t (b.drop x.1)=Z) (0,f0,o) (show 0≤b.length∧o.length≤ol + 0∧(0≤f0∧f0 < topK)∧o++mnX nxK pvK f0 t (b.drop 0)=Z from ⟨Nat.zero_le _,by omega,hf0,hZ⟩) ?_)
  ·exact aR (aR (aR (aR (aR (aR (aR (aI (aI (aI (aR aM))))))))))
  ·exact aU (kR rfl) (aU (kP rfl (rngsC_pure _)) (aU (kR rfl) aM))
  rintro ⟨j,f,q⟩ hIB ihB
  try (dsimp only at hIB)
  try dsimp only
  obtain ⟨hj,hql,hfb,hq⟩:=hIB
  by_cases hcj:j < b.length
  ·have g2:decide ((j:Int) < (b.length:Int))=true:=decide_eq_true (by omega)
   have hjj:(j:Int) + 1=((j + 1:Nat):Int):=by omega
   have hvt:=rng_tk' hcj
   have hvi:=hbi b[j] (List.getElem_mem hcj)
   rw [List.drop_eq_getElem_cons hcj] at hq
   obtain ⟨y,hy⟩:∃ y,b[j]=y:=⟨_,rfl⟩
   rw [hy] at hvt hvi hq
   have hy1:=hvi.b1
   have hy2:=hvi.b2
   unfold mnX at hq
   have hc1:=acmp_pl y.2 f hy2 hfb
   have hc2:=acmp_pl y.1 t hy1 htb
   refine Wq<|qW 43 44 rfl<|qK rfl<|Nl<|Wq<|Wt rfl ‹_›<|Wu<|Wq<|Wb<|Wq<|qW 48 52 rfl<|qJ rfl rfl ty127 ty217 (by omega)<|Od rfl rfl (Lg rfl rfl ty217 rfl hvt)<|qB rfl ty217<|qS rfl ty217 (Sl rfl) rfl<|Nl ?_
   by_cases h1:y.2 < f
   ·have d1:decide (cmpI y.2 f < 0)=true:=by rw [cmpI_lt0];exact decide_eq_true h1
    rw [if_pos (.inl h1)] at hq
    refine Wq<|Wq<|qW 56 74 rfl<|qF rfl ty134 rfl<|qL rfl ty81 rfl<|qF rfl ty217 rfl<|qG rfl ty36 rfl (Tl rfl)<|qF rfl ty217 rfl<|qG rfl ty36 rfl (Tl rfl)<|Od rfl rfl (LO.callF (fr:=[]) rfl rfl hc1 fok55 (.cons rfl (.pure rfl) (.cons rfl (.pure rfl) .nil)) rfl)<|qK rfl<|qM rfl<|qD rfl ‹_› rfl<|qD rfl ‹_› rfl<|qD rfl ‹_› rfl<|qD rfl ‹_› rfl<|qD rfl ‹_› rfl<|qD rfl ‹_› rfl<|qD rfl ‹_› rfl<|qD rfl ‹_› rfl<|qT rfl ‹_› rfl<|Nl<|Wt rfl rfl<|Wx<|qW 161 163 rfl<|qZ rfl (iW _ (by omega))<|qM rfl<|Nl ?_
    rw [hjj]
    refine WL.rename [(0,0),(1,1),(2,2)] 3 (by decide) ?_ ?_ (ihB ((j + 1),f,q) (show b.length - (j + 1) < b.length - j from by omega) (show (j + 1)≤b.length∧q.length≤ol + (j + 1)∧(0≤f∧f < topK)∧q++mnX nxK pvK f t (b.drop (j + 1))=Z from ⟨by omega,by omega,hfb,hq⟩))
    ·exact aR (aR (aR (aR (aR (aR (aR (aI (aI (aI (aR aM))))))))))
    ·exact aU (kR rfl) (aU (kP rfl (rngsC_pure _)) (aU (kR rfl) aM))
   ·have d1:decide (cmpI y.2 f < 0)=false:=by rw [cmpI_lt0];exact decide_eq_false h1
    by_cases h2:y.1 > t
    ·have d2:decide (cmpI y.1 t > 0)=true:=by rw [cmpI_gt0];exact decide_eq_true h2
     rw [if_pos (.inr h2)] at hq
     refine Wq<|Wq<|qW 56 74 rfl<|qF rfl ty134 rfl<|qL rfl ty81 rfl<|qF rfl ty217 rfl<|qG rfl ty36 rfl (Tl rfl)<|qF rfl ty217 rfl<|qG rfl ty36 rfl (Tl rfl)<|Od rfl rfl (LO.callF (fr:=[]) rfl rfl hc1 fok55 (.cons rfl (.pure rfl) (.cons rfl (.pure rfl) .nil)) rfl)<|qK rfl<|qM rfl<|gF rfl ‹_› ty134 rfl<|gL rfl ‹_› ty81 rfl<|gF rfl ‹_› ty217 rfl<|gG rfl ‹_› ty36 rfl (Tl rfl)<|gF rfl ‹_› ty217 rfl<|gG rfl ‹_› ty36 rfl (Tl rfl)<|qU rfl ‹_› rfl (LO.callF (fr:=[]) rfl rfl hc2 fok55 (.cons rfl (.pure rfl) (.cons rfl (.pure rfl) .nil)) rfl)<|gGt rfl ‹_›<|qP rfl ‹_› rfl<|Nl<|Wt rfl ‹_›<|Wx<|qW 161 163 rfl<|qZ rfl (iW _ (by omega))<|qM rfl<|Nl ?_
     rw [hjj]
     refine WL.rename [(0,0),(1,1),(2,2)] 3 (by decide) ?_ ?_ (ihB ((j + 1),f,q) (show b.length - (j + 1) < b.length - j from by omega) (show (j + 1)≤b.length∧q.length≤ol + (j + 1)∧(0≤f∧f < topK)∧q++mnX nxK pvK f t (b.drop (j + 1))=Z from ⟨by omega,by omega,hfb,hq⟩))
     ·exact aR (aR (aR (aR (aR (aR (aR (aI (aI (aI (aR aM))))))))))
     ·exact aU (kR rfl) (aU (kP rfl (rngsC_pure _)) (aU (kR rfl) aM))
    ·have d2:decide (cmpI y.1 t > 0)=false:=by rw [cmpI_gt0];exact decide_eq_false h2
     rw [if_neg (by omega),← List.append_assoc] at hq
     have hpv:=aprev_pl y.1 hy1
     have hnx:=anext_pl y.2 hy2
     refine Wq<|Wq<|qW 56 74 rfl<|qF rfl ty134 rfl<|qL rfl ty81 rfl<|qF rfl ty217 rfl<|qG rfl ty36 rfl (Tl rfl)<|qF rfl ty217 rfl<|qG rfl ty36 rfl (Tl rfl)<|Od rfl rfl (LO.callF (fr:=[]) rfl rfl hc1 fok55 (.cons rfl (.pure rfl) (.cons rfl (.pure rfl) .nil)) rfl)<|qK rfl<|qM rfl<|gF rfl ‹_› ty134 rfl<|gL rfl ‹_› ty81 rfl<|gF rfl ‹_› ty217 rfl<|gG rfl ‹_› ty36 rfl (Tl rfl)<|gF rfl ‹_› ty217 rfl<|gG rfl ‹_› ty36 rfl (Tl rfl)<|qU rfl ‹_› rfl (LO.callF (fr:=[]) rfl rfl hc2 fok55 (.cons rfl (.pure rfl) (.cons rfl (.pure rfl) .nil)) rfl)<|gGt rfl ‹_›<|qP rfl ‹_› rfl<|Nl<|Wo rfl ‹_›<|Wu<|Wq<|Wq<|qW 78 89 rfl<|qF rfl ty134 rfl<|qL rfl ty132 rfl<|qF rfl ty217 rfl<|qG rfl ty36 rfl (Tl rfl)<|Od rfl rfl (LO.callF (fr:=[]) rfl rfl hpv fok443 (.cons rfl (.pure rfl) .nil) rfl)<|qM rfl<|qX rfl<|qX rfl<|qB rfl ty36<|qS rfl ty36 (Sl rfl) rfl<|qA rfl<|Nl<|W.joinK (α:=List (Int × Int)) 4 (fun x=>[(2,.isl (rngsC b) b.length),(3,.own 0 0),(7,.osl 1 0 x.length 6),(9,.own 2 0),(12,.own 3 0)]) (fun x=>up (up (up (up mt 0 (some (ordA))) 1 (some (rngsC x))) 2 (some (rngC (f,t)))) 3 (some (rngC y))) (fun x=>x.length≤ol + j + 1∧x++(match nxK y.2 with|some n=>if n > t then [] else mnX nxK pvK n t (b.drop (j + 1))|none=>[])=Z) (.cons (t:=10) rfl (by exact .inl rfl) (.cons (t:=17) rfl (by exact .inl rfl) (.cons (t:=18) rfl (by exact .inl rfl) (.cons (t:=19) rfl (by exact .inl rfl) (.cons (t:=23) rfl (by exact .inl rfl) (.cons (t:=24) rfl (by exact .inl rfl) (.cons (t:=25) rfl (by exact .inl rfl) .nil))))))) ?_ ?_
     rotate_left
     rintro q2 hIJ
     try (dsimp only at hIJ)
     try dsimp only [joinT,baseT,List.cons_append,List.nil_append]
     rotate_right
     ·
      cases hp:pvK y.1 with
      | none =>
       rw [hp,List.append_nil] at hq
       rw [show (none:Option Int).isSome=false from rfl]
       refine Wq<|qW 93 103 rfl<|qM rfl<|qM rfl<|qD rfl rfl rfl<|qD rfl rfl rfl<|qD rfl rfl rfl<|qD rfl rfl rfl<|qD rfl rfl rfl<|qD rfl rfl rfl<|qD rfl rfl rfl<|qP rfl rfl rfl<|Nl<|Wo rfl rfl<|Wu ?_
       intro yJ KJ hJ
       refine W.renameJ [(0,0),(1,1),(2,2),(3,50)] 4 (by decide) ?_ ?_ (hJ q (show q.length≤ol + j + 1∧q++(match nxK y.2 with|some n=>if n > t then [] else mnX nxK pvK n t (b.drop (j + 1))|none=>[])=Z from ⟨by omega,hq⟩))
       ·exact lC (lR rfl) (lC (lI rfl) (lC (lI rfl) (lC (lI rfl) (lC (lI rfl) (lC (lR rfl) (lC (lR rfl) (lC (lR rfl) (lC (lR rfl) (lC (lR rfl) (lC (lR rfl) (lC (lR rfl) lN)))))))))))
       ·exact aU (kR rfl) (aU (kR rfl) (aU (kP rfl (rngsC_pure _)) (aU (kR rfl) aM)))
      | some m =>
       have hm1:=nbK.pv1 _ _ hp
       have hmb:0≤m∧m < topK:=by unfold pvK at hp;split at hp;cases hp;omega
       have hc3:=acmp_pl f m hfb hmb
       rw [hp] at hq
       dsimp only at hq
       rw [show (some m).isSome=true from rfl,show (some m).getD 0=m from rfl]
       by_cases hfm:f≤m
       ·
        have d3:decide (cmpI f m≤0)=true:=by rw [cmpI_le];exact decide_eq_true hfm
        rw [if_pos hfm] at hq
        refine Wq<|qW 93 103 rfl<|qM rfl<|qM rfl<|gF rfl rfl ty134 rfl<|gL rfl rfl ty81 rfl<|gF rfl rfl ty217 rfl<|gG rfl rfl ty36 rfl (Tl rfl)<|gG rfl rfl ty36 rfl (Tl rfl)<|qU rfl rfl rfl (LO.callF (fr:=[]) rfl rfl hc3 fok55 (.cons rfl (.pure rfl) (.cons rfl (.pure rfl) .nil)) rfl)<|gLe rfl rfl<|qT rfl rfl rfl<|Nl<|Wt rfl ‹_›<|qW 107 115 rfl<|qM rfl<|qF rfl ty217 rfl<|qG rfl ty36 rfl (Tl rfl)<|qG rfl ty36 rfl (Tl rfl)<|Od rfl rfl (Bs rfl ty217 (.cons rfl rfl rfl rfl (Sl rfl) (.cons rfl rfl rfl rfl (Sl rfl) .nil)))<|Od rfl rfl (LO.buildSlice rfl ty127 ty217 (by decide) (by decide) (.cons rfl rfl rfl rfl (Sl rfl) .nil))<|Od rfl rfl (Lap rfl rfl (Sso rfl rfl (Tl rfl)) rfl (rngs_all rfl) ty127 ty127 ty217 (by decide) (by omega) (by omega) (by decide))<|qA rfl<|Nl ?_
        rw [rng_snocA (k:=f) (z:=m) rfl,show q.length + 1=(q++[(f,m)]).length from by simp]
        intro yJ KJ hJ
        refine W.renameJ [(0,0),(1,113),(2,2),(3,50)] 4 (by decide) ?_ ?_ (hJ (q++[(f,m)]) (show (q++[(f,m)]).length≤ol + j + 1∧(q++[(f,m)])++(match nxK y.2 with|some n=>if n > t then [] else mnX nxK pvK n t (b.drop (j + 1))|none=>[])=Z from ⟨by simp;omega,hq⟩))
        ·exact lC (lR rfl) (lC (lI rfl) (lC (lI rfl) (lC (lI rfl) (lC (lI rfl) (lC (lR rfl) (lC (lR rfl) (lC (lR rfl) (lC (lR rfl) (lC (lR rfl) (lC (lR rfl) (lC (lR rfl) lN)))))))))))
        ·exact aU (kR rfl) (aU (kR rfl) (aU (kP rfl (rngsC_pure _)) (aU (kR rfl) aM)))
       ·
        have d3:decide (cmpI f m≤0)=false:=by rw [cmpI_le];exact decide_eq_false hfm
        rw [if_neg hfm,List.append_nil] at hq
        refine Wq<|qW 93 103 rfl<|qM rfl<|qM rfl<|gF rfl rfl ty134 rfl<|gL rfl rfl ty81 rfl<|gF rfl rfl ty217 rfl<|gG rfl rfl ty36 rfl (Tl rfl)<|gG rfl rfl ty36 rfl (Tl rfl)<|qU rfl rfl rfl (LO.callF (fr:=[]) rfl rfl hc3 fok55 (.cons rfl (.pure rfl) (.cons rfl (.pure rfl) .nil)) rfl)<|gLe rfl rfl<|qT rfl rfl rfl<|Nl<|Wo rfl ‹_›<|Wu ?_
        intro yJ KJ hJ
        refine W.renameJ [(0,0),(1,1),(2,2),(3,50)] 4 (by decide) ?_ ?_ (hJ q (show q.length≤ol + j + 1∧q++(match nxK y.2 with|some n=>if n > t then [] else mnX nxK pvK n t (b.drop (j + 1))|none=>[])=Z from ⟨by omega,hq⟩))
        ·exact lC (lR rfl) (lC (lI rfl) (lC (lI rfl) (lC (lI rfl) (lC (lI rfl) (lC (lR rfl) (lC (lR rfl) (lC (lR rfl) (lC (lR rfl) (lC (lR rfl) (lC (lR rfl) (lC (lR rfl) lN)))))))))))
        ·exact aU (kR rfl) (aU (kR rfl) (aU (kP rfl (rngsC_pure _)) (aU (kR rfl) aM)))
     clear hq hql
     obtain ⟨hql,hq⟩:=hIJ
     refine Wq<|qW 119 130 rfl<|qF rfl ty134 rfl<|qL rfl ty132 rfl<|qF rfl ty217 rfl<|qG rfl ty36 rfl (Tl rfl)<|Od rfl rfl (LO.callF (fr:=[]) rfl rfl hnx fok57 (.cons rfl (.pure rfl) .nil) rfl)<|qM rfl<|qX rfl<|qX rfl<|qB rfl ty36<|qS rfl ty36 (Sl rfl) rfl<|qA rfl<|Nl ?_
     cases hn:nxK y.2 with
     | none =>
      rw [hn,List.append_nil] at hq
      rw [show (none:Option Int).isSome=false from rfl]
      clear ihB
      refine Wq<|Wq<|qW 134 145 rfl<|qM rfl<|qO rfl<|qM rfl<|qD rfl rfl rfl<|qD rfl rfl rfl<|qD rfl rfl rfl<|qD rfl rfl rfl<|qD rfl rfl rfl<|qD rfl rfl rfl<|qD rfl rfl rfl<|qT rfl rfl rfl<|Nl<|Wt rfl rfl<|Wq<|qW 149 150 rfl<|qA rfl<|Nl<|Wx<|Wq<|qW 167 168 rfl<|qM rfl<|Nl<|Wo rfl rfl<|Wu<|qW 181 183 rfl<|qZ rfl (iW _ (by omega))<|qM rfl<|Nl ?_
      rw [hkk]
      refine WL.rename [(0,0),(1,1)] 2 (by decide) ?_ ?_ (ihA ((k + 1),q2) (show a.length - (k + 1) < a.length - k from by omega) (show (k + 1)≤a.length∧q2.length≤bd600 (k + 1)∧q2=minR (a.take (k + 1)) b from ⟨by omega,by omega,by rw [hnext];exact hq⟩))
      ·exact aR (aR (aR (aI (aI (aR aM)))))
      ·exact aU (kP rfl (rngsC_pure _)) (aU (kR rfl) aM)
     | some n =>
      have hn1:=nbK.nx1 _ _ hn
      have hnb:0≤n∧n < topK:=by unfold nxK at hn;split at hn;cases hn;unfold topK at *;omega
      have hc4:=acmp_pl n t hnb htb
      rw [hn] at hq
      dsimp only at hq
      rw [show (some n).isSome=true from rfl,show (some n).getD 0=n from rfl]
      by_cases hnt:n > t
      ·have d4:decide (cmpI n t > 0)=true:=by rw [cmpI_gt0];exact decide_eq_true hnt
       rw [if_pos hnt,List.append_nil] at hq
       clear ihB
       refine Wq<|Wq<|qW 134 145 rfl<|qM rfl<|qO rfl<|qM rfl<|gF rfl rfl ty134 rfl<|gL rfl rfl ty81 rfl<|gG rfl rfl ty36 rfl (Tl rfl)<|gF rfl rfl ty217 rfl<|gG rfl rfl ty36 rfl (Tl rfl)<|qU rfl rfl rfl (LO.callF (fr:=[]) rfl rfl hc4 fok55 (.cons rfl (.pure rfl) (.cons rfl (.pure rfl) .nil)) rfl)<|gGt rfl rfl<|qP rfl rfl rfl<|Nl<|Wt rfl ‹_›<|Wq<|qW 149 150 rfl<|qA rfl<|Nl<|Wx<|Wq<|qW 167 168 rfl<|qM rfl<|Nl<|Wo rfl rfl<|Wu<|qW 181 183 rfl<|qZ rfl (iW _ (by omega))<|qM rfl<|Nl ?_
       rw [hkk]
       refine WL.rename [(0,0),(1,1)] 2 (by decide) ?_ ?_ (ihA ((k + 1),q2) (show a.length - (k + 1) < a.length - k from by omega) (show (k + 1)≤a.length∧q2.length≤bd600 (k + 1)∧q2=minR (a.take (k + 1)) b from ⟨by omega,by omega,by rw [hnext];exact hq⟩))
       ·exact aR (aR (aR (aI (aI (aR aM)))))
       ·exact aU (kP rfl (rngsC_pure _)) (aU (kR rfl) aM)
      ·have d4:decide (cmpI n t > 0)=false:=by rw [cmpI_gt0];exact decide_eq_false hnt
       rw [if_neg hnt] at hq
       refine Wq<|Wq<|qW 134 145 rfl<|qM rfl<|qO rfl<|qM rfl<|gF rfl rfl ty134 rfl<|gL rfl rfl ty81 rfl<|gG rfl rfl ty36 rfl (Tl rfl)<|gF rfl rfl ty217 rfl<|gG rfl rfl ty36 rfl (Tl rfl)<|qU rfl rfl rfl (LO.callF (fr:=[]) rfl rfl hc4 fok55 (.cons rfl (.pure rfl) (.cons rfl (.pure rfl) .nil)) rfl)<|gGt rfl rfl<|qP rfl rfl rfl<|Nl<|Wo rfl ‹_›<|Wu<|qW 154 157 rfl<|qG rfl ty36 rfl (Tl rfl)<|qF rfl ty217 rfl<|qS rfl ty36 (Sl rfl) rfl<|Nl<|qW 161 163 rfl<|qZ rfl (iW _ (by omega))<|qM rfl<|Nl ?_
       rw [hjj]
       refine WL.rename [(0,0),(1,1),(2,2)] 3 (by decide) ?_ ?_ (ihB ((j + 1),n,q2) (show b.length - (j + 1) < b.length - j from by omega) (show (j + 1)≤b.length∧q2.length≤ol + (j + 1)∧(0≤n∧n < topK)∧q2++mnX nxK pvK n t (b.drop (j + 1))=Z from ⟨by omega,by omega,hnb,hq⟩))
       ·exact aR (aR (aR (aR (aR (aR (aR (aI (aI (aI (aR aM))))))))))
       ·exact aU (kR rfl) (aU (kP rfl (rngsC_pure _)) (aU (kR rfl) aM))
  ·have g2:decide ((j:Int) < (b.length:Int))=false:=decide_eq_false (by omega)
   rw [List.drop_of_length_le (by omega)] at hq
   have hq2:q++[(f,t)]=minR (a.take (k + 1)) b:=by rw [hnext,← hq];rfl
   clear ihB
   refine Wq<|qW 43 44 rfl<|qK rfl<|Nl<|Wq<|Wo rfl ‹_›<|Wx<|Wq<|qW 167 168 rfl<|qM rfl<|Nl<|Wt rfl rfl<|qW 172 177 rfl<|qM rfl<|qG rfl ty217 rfl (Tl rfl)<|Od rfl rfl (LO.buildSlice rfl ty127 ty217 (by decide) (by decide) (.cons rfl rfl rfl rfl (Sl rfl) .nil))<|Od rfl rfl (Lap rfl rfl (Sso rfl rfl (Tl rfl)) rfl (rngs_all rfl) ty127 ty127 ty217 (by decide) (by omega) (by omega) (by decide))<|qA rfl<|Nl ?_
   rw [rng_snocA (k:=f) (z:=t) rfl,show q.length + 1=(q++[(f,t)]).length from by simp]
   refine qW 181 183 rfl<|qZ rfl (iW _ (by omega))<|qM rfl<|Nl ?_
   rw [hkk]
   refine WL.rename [(0,0),(1,175)] 2 (by decide) ?_ ?_ (ihA ((k + 1),(q++[(f,t)])) (show a.length - (k + 1) < a.length - k from by omega) (show (k + 1)≤a.length∧(q++[(f,t)]).length≤bd600 (k + 1)∧(q++[(f,t)])=minR (a.take (k + 1)) b from ⟨by omega,by simp;omega,hq2⟩))
   ·exact aR (aR (aR (aI (aI (aR aM)))))
   ·exact aU (kP rfl (rngsC_pure _)) (aU (kR rfl) aM)
 ·have g1:decide ((k:Int) < (a.length:Int))=false:=decide_eq_false (by omega)
  rw [List.take_of_length_le (by omega)] at ho
  clear ihA
  refine Wq<|qW 18 19 rfl<|qK rfl<|Nl<|Wq<|Wo rfl ‹_›<|Wx<|Wq<|qW 187 189 rfl<|qM rfl<|qA rfl<|Nl<|Wy (t:=6) rfl rfl (rngs_all rfl) (rngsC_pure _)<|Wz ⟨.inl rfl,_,mt,(Rc (Rt0 rfl) Rv),aM,?_⟩
  exact ⟨by rw [ho];rfl,rfl⟩
set_option maxHeartbeats 4000000 in
theorem minusN_any (a b:List (Int × Int)) (hai:∀ z∈a,InN z) (hbi:∀ z∈b,InN z) (hal:a.length≤256) (hbl:b.length≤256):AFn Tryz.prog 289 0 [.agg ordN,.isl (spnsC a) a.length,.isl (spnsC b) b.length] mt (.isl (spnsC (minR a b)) (minR a b).length) mt:=by
 refine AFn.eq Tryz.func289 rfl rfl (Nat.le_of_ble_eq_true rfl)<|Wq<|qW 0 2 rfl<|qC rfl<|qA rfl<|Nl<|Wq<|qW 6 7 rfl<|qA rfl<|Nl<|W.name 7 (7 + 1) (t:=7) (sz:=2) rfl (by decide) (by decide)<|Wq<|Wq<|qW 11 14 rfl<|qM rfl<|qH rfl ty128<|qM rfl<|Nl<|Wb<|W.rename [(0,0),(1,7)] 2 (by decide) ?_ ?_ (W.loop_ind (α:=Nat × List (Int × Int)) (fun x=>a.length - x.1) 2 (fun x=>up (up (up (up (up (up mt 2 (some (.isl (spnsC b) b.length))) 3 (some (.own 0 0))) 7 (some (.osl 1 0 x.2.length 2))) 17 (some (.isl (spnsC a) a.length))) 18 (some (.base (.int .i64 (a.length:Int))))) 19 (some (.base (.int .i64 (x.1:Int))))) (fun x=>up (up mt 0 (some (ordN))) 1 (some (spnsC x.2))) (fun x=>x.1≤a.length∧x.2.length≤bd600 x.1∧x.2=minR (a.take x.1) b) (0,(([]:List (Int × Int)))) (show 0≤a.length∧(([]:List (Int × Int))).length≤bd600 0∧(([]:List (Int × Int)))=minR (a.take 0) b from ⟨Nat.zero_le _,by simp,by rw [List.take_zero];rfl⟩) ?_)
 ·exact aR (aR (aR (aI (aI (aR aM)))))
 ·exact aU (kR rfl) (aU (kR rfl) aM)
 rintro ⟨k,o⟩ hIA ihA
 try (dsimp only at hIA)
 try dsimp only
 obtain ⟨hk,hol,ho⟩:=hIA
 have hbs:=bd600_succ k
 have hbl6:=bd600_le (k:=k) (by omega)
 by_cases hc:k < a.length
 ·have g1:decide ((k:Int) < (a.length:Int))=true:=decide_eq_true (by omega)
  have hkk:(k:Int) + 1=((k + 1:Nat):Int):=by omega
  have hut:=spn_tk' hc
  have hui:=hai a[k] (List.getElem_mem hc)
  have hnext:minR (a.take (k + 1)) b=minR (a.take k) b++mnX nxK pvK a[k].1 a[k].2 b:=flat_next hc
  obtain ⟨⟨f0,t⟩,hu⟩:∃ u,a[k]=u:=⟨_,rfl⟩
  rw [hu] at hut hui hnext
  have hf0:0≤f0∧f0≤4294967295:=⟨hui.2.1,by have h7:=hui.1;have h8:=hui.2.2;dsimp only at h7 h8;omega⟩
  have htb:0≤t∧t≤4294967295:=⟨by have h7:=hui.1;have h8:=hui.2.1;dsimp only at h7 h8;omega,hui.2.2⟩
  rw [← ho] at hnext
  dsimp only at hnext hf0 htb
  obtain ⟨Z,hZ⟩:∃ Z,o++mnX nxK pvK f0 t b=Z:=⟨_,rfl⟩
  rw [hZ] at hnext
  obtain ⟨ol,hole⟩:∃ n,o.length=n:=⟨_,rfl⟩
  refine Wq<|qW 18 19 rfl<|qK rfl<|Nl<|Wq<|Wt rfl ‹_›<|Wu<|Wq<|Wb<|Wq<|qW 23 27 rfl<|qJ rfl rfl ty128 ty219 (by omega)<|Od rfl rfl (Lg rfl rfl ty219 rfl hut)<|qB rfl ty219<|qS rfl ty219 (Sl rfl) rfl<|Nl<|Wq<|qW 31 32 rfl<|qA rfl<|Nl<|Wq<|Wq<|qW 36 39 rfl<|qM rfl<|qH rfl ty128<|qM rfl<|Nl<|Wb<|W.rename [(0,0),(1,1),(2,25)] 3 (by decide) ?_ ?_ (W.loop_ind (α:=Nat × Int × List (Int × Int)) (fun x=>b.length - x.1) 3 (fun x=>up (up (up (up (up (up (up (up (up (up (up mt 2 (some (.isl (spnsC b) b.length))) 3 (some (.own 0 0))) 7 (some (.osl 1 0 x.2.2.length 2))) 9 (some (.own 2 0))) 10 (some (.base (.bool true)))) 17 (some (.isl (spnsC a) a.length))) 18 (some (.base (.int .i64 (a.length:Int))))) 19 (some (.base (.int .i64 (k:Int))))) 23 (some (.isl (spnsC b) b.length))) 24 (some (.base (.int .i64 (b.length:Int))))) 25 (some (.base (.int .i64 (x.1:Int))))) (fun x=>up (up (up mt 0 (some (ordN))) 1 (some (spnsC x.2.2))) 2 (some (spnC (x.2.1,t)))) (fun x=>x.1≤b.length∧x.2.2.length≤ol + x.1∧(0≤x.2.1∧x.2.1≤4294967295)∧x.2.2++mnX nxK pvK x.2.1 t (b.drop x.1)=Z) (0,f0,o) (show 0≤b.length∧o.length≤ol + 0∧(0≤f0∧f0≤4294967295)∧o++mnX nxK pvK f0 t (b.drop 0)=Z from ⟨Nat.zero_le _,by omega,hf0,hZ⟩) ?_)
  ·exact aR (aR (aR (aR (aR (aR (aR (aI (aI (aI (aR aM))))))))))
  ·exact aU (kR rfl) (aU (kP rfl (spnsC_pure _)) (aU (kR rfl) aM))
  rintro ⟨j,f,q⟩ hIB ihB
  try (dsimp only at hIB)
  try dsimp only
  obtain ⟨hj,hql,hfb,hq⟩:=hIB
  by_cases hcj:j < b.length
  ·have g2:decide ((j:Int) < (b.length:Int))=true:=decide_eq_true (by omega)
   have hjj:(j:Int) + 1=((j + 1:Nat):Int):=by omega
   have hvt:=spn_tk' hcj
   have hvi:=hbi b[j] (List.getElem_mem hcj)
   rw [List.drop_eq_getElem_cons hcj] at hq
   obtain ⟨y,hy⟩:∃ y,b[j]=y:=⟨_,rfl⟩
   rw [hy] at hvt hvi hq
   have hy1:0≤y.1∧y.1≤4294967295:=⟨hvi.2.1,by have:=hvi.1;have:=hvi.2.2;omega⟩
   have hy2:0≤y.2∧y.2≤4294967295:=⟨by have:=hvi.1;have:=hvi.2.1;omega,hvi.2.2⟩
   unfold mnX at hq
   have hc1:=cmpi_any y.2 f
   have hc2:=cmpi_any y.1 t
   refine Wq<|qW 43 44 rfl<|qK rfl<|Nl<|Wq<|Wt rfl ‹_›<|Wu<|Wq<|Wb<|Wq<|qW 48 52 rfl<|qJ rfl rfl ty128 ty219 (by omega)<|Od rfl rfl (Lg rfl rfl ty219 rfl hvt)<|qB rfl ty219<|qS rfl ty219 (Sl rfl) rfl<|Nl ?_
   by_cases h1:y.2 < f
   ·have d1:decide (cmpI y.2 f < 0)=true:=by rw [cmpI_lt0];exact decide_eq_true h1
    rw [if_pos (.inl h1)] at hq
    refine Wq<|Wq<|qW 56 74 rfl<|qF rfl ty138 rfl<|qL rfl ty29 rfl<|qF rfl ty219 rfl<|qL rfl ty3 rfl<|qF rfl ty219 rfl<|qL rfl ty3 rfl<|Od rfl rfl (LO.callF (fr:=[]) rfl rfl hc1 fok136 (.cons rfl (.pure rfl) (.cons rfl (.pure rfl) .nil)) rfl)<|qK rfl<|qM rfl<|qD rfl ‹_› rfl<|qD rfl ‹_› rfl<|qD rfl ‹_› rfl<|qD rfl ‹_› rfl<|qD rfl ‹_› rfl<|qD rfl ‹_› rfl<|qD rfl ‹_› rfl<|qD rfl ‹_› rfl<|qT rfl ‹_› rfl<|Nl<|Wt rfl rfl<|Wx<|qW 159 161 rfl<|qZ rfl (iW _ (by omega))<|qM rfl<|Nl ?_
    rw [hjj]
    refine WL.rename [(0,0),(1,1),(2,2)] 3 (by decide) ?_ ?_ (ihB ((j + 1),f,q) (show b.length - (j + 1) < b.length - j from by omega) (show (j + 1)≤b.length∧q.length≤ol + (j + 1)∧(0≤f∧f≤4294967295)∧q++mnX nxK pvK f t (b.drop (j + 1))=Z from ⟨by omega,by omega,hfb,hq⟩))
    ·exact aR (aR (aR (aR (aR (aR (aR (aI (aI (aI (aR aM))))))))))
    ·exact aU (kR rfl) (aU (kP rfl (spnsC_pure _)) (aU (kR rfl) aM))
   ·have d1:decide (cmpI y.2 f < 0)=false:=by rw [cmpI_lt0];exact decide_eq_false h1
    by_cases h2:y.1 > t
    ·have d2:decide (cmpI y.1 t > 0)=true:=by rw [cmpI_gt0];exact decide_eq_true h2
     rw [if_pos (.inr h2)] at hq
     refine Wq<|Wq<|qW 56 74 rfl<|qF rfl ty138 rfl<|qL rfl ty29 rfl<|qF rfl ty219 rfl<|qL rfl ty3 rfl<|qF rfl ty219 rfl<|qL rfl ty3 rfl<|Od rfl rfl (LO.callF (fr:=[]) rfl rfl hc1 fok136 (.cons rfl (.pure rfl) (.cons rfl (.pure rfl) .nil)) rfl)<|qK rfl<|qM rfl<|gF rfl ‹_› ty138 rfl<|gL rfl ‹_› ty29 rfl<|gF rfl ‹_› ty219 rfl<|gL rfl ‹_› ty3 rfl<|gF rfl ‹_› ty219 rfl<|gL rfl ‹_› ty3 rfl<|qU rfl ‹_› rfl (LO.callF (fr:=[]) rfl rfl hc2 fok136 (.cons rfl (.pure rfl) (.cons rfl (.pure rfl) .nil)) rfl)<|gGt rfl ‹_›<|qP rfl ‹_› rfl<|Nl<|Wt rfl ‹_›<|Wx<|qW 159 161 rfl<|qZ rfl (iW _ (by omega))<|qM rfl<|Nl ?_
     rw [hjj]
     refine WL.rename [(0,0),(1,1),(2,2)] 3 (by decide) ?_ ?_ (ihB ((j + 1),f,q) (show b.length - (j + 1) < b.length - j from by omega) (show (j + 1)≤b.length∧q.length≤ol + (j + 1)∧(0≤f∧f≤4294967295)∧q++mnX nxK pvK f t (b.drop (j + 1))=Z from ⟨by omega,by omega,hfb,hq⟩))
     ·exact aR (aR (aR (aR (aR (aR (aR (aI (aI (aI (aR aM))))))))))
     ·exact aU (kR rfl) (aU (kP rfl (spnsC_pure _)) (aU (kR rfl) aM))
    ·have d2:decide (cmpI y.1 t > 0)=false:=by rw [cmpI_gt0];exact decide_eq_false h2
     rw [if_neg (by omega),← List.append_assoc] at hq
     have hpv:=nprev_any y.1 hy1
     have hnx:=nnext_any y.2 hy2
     refine Wq<|Wq<|qW 56 74 rfl<|qF rfl ty138 rfl<|qL rfl ty29 rfl<|qF rfl ty219 rfl<|qL rfl ty3 rfl<|qF rfl ty219 rfl<|qL rfl ty3 rfl<|Od rfl rfl (LO.callF (fr:=[]) rfl rfl hc1 fok136 (.cons rfl (.pure rfl) (.cons rfl (.pure rfl) .nil)) rfl)<|qK rfl<|qM rfl<|gF rfl ‹_› ty138 rfl<|gL rfl ‹_› ty29 rfl<|gF rfl ‹_› ty219 rfl<|gL rfl ‹_› ty3 rfl<|gF rfl ‹_› ty219 rfl<|gL rfl ‹_› ty3 rfl<|qU rfl ‹_› rfl (LO.callF (fr:=[]) rfl rfl hc2 fok136 (.cons rfl (.pure rfl) (.cons rfl (.pure rfl) .nil)) rfl)<|gGt rfl ‹_›<|qP rfl ‹_› rfl<|Nl<|Wo rfl ‹_›<|Wu<|Wq<|Wq<|qW 78 88 rfl<|qF rfl ty138 rfl<|qL rfl ty136 rfl<|qF rfl ty219 rfl<|qL rfl ty3 rfl<|Od rfl rfl (LO.callF (fr:=[]) rfl rfl hpv fok445 (.cons rfl (.pure rfl) .nil) rfl)<|qM rfl<|qX rfl<|qX rfl<|qA rfl<|qA rfl<|Nl<|W.joinK (α:=List (Int × Int)) 4 (fun x=>[(2,.isl (spnsC b) b.length),(3,.own 0 0),(7,.osl 1 0 x.length 2),(9,.own 2 0),(12,.own 3 0)]) (fun x=>up (up (up (up mt 0 (some (ordN))) 1 (some (spnsC x))) 2 (some (spnC (f,t)))) 3 (some (spnC y))) (fun x=>x.length≤ol + j + 1∧x++(match nxK y.2 with|some n=>if n > t then [] else mnX nxK pvK n t (b.drop (j + 1))|none=>[])=Z) (.cons (t:=10) rfl (by exact .inl rfl) (.cons (t:=17) rfl (by exact .inl rfl) (.cons (t:=18) rfl (by exact .inl rfl) (.cons (t:=19) rfl (by exact .inl rfl) (.cons (t:=23) rfl (by exact .inl rfl) (.cons (t:=24) rfl (by exact .inl rfl) (.cons (t:=25) rfl (by exact .inl rfl) .nil))))))) ?_ ?_
     rotate_left
     rintro q2 hIJ
     try (dsimp only at hIJ)
     try dsimp only [joinT,baseT,List.cons_append,List.nil_append]
     rotate_right
     ·
      cases hp:pvK y.1 with
      | none =>
       rw [hp,List.append_nil] at hq
       rw [show (none:Option Int).isSome=false from rfl]
       refine Wq<|qW 92 102 rfl<|qM rfl<|qM rfl<|qD rfl rfl rfl<|qD rfl rfl rfl<|qD rfl rfl rfl<|qD rfl rfl rfl<|qD rfl rfl rfl<|qD rfl rfl rfl<|qD rfl rfl rfl<|qP rfl rfl rfl<|Nl<|Wo rfl rfl<|Wu ?_
       intro yJ KJ hJ
       refine W.renameJ [(0,0),(1,1),(2,2),(3,50)] 4 (by decide) ?_ ?_ (hJ q (show q.length≤ol + j + 1∧q++(match nxK y.2 with|some n=>if n > t then [] else mnX nxK pvK n t (b.drop (j + 1))|none=>[])=Z from ⟨by omega,hq⟩))
       ·exact lC (lR rfl) (lC (lI rfl) (lC (lI rfl) (lC (lI rfl) (lC (lI rfl) (lC (lR rfl) (lC (lR rfl) (lC (lR rfl) (lC (lR rfl) (lC (lR rfl) (lC (lR rfl) (lC (lR rfl) lN)))))))))))
       ·exact aU (kR rfl) (aU (kR rfl) (aU (kP rfl (spnsC_pure _)) (aU (kR rfl) aM)))
      | some m =>
       have hm1:=nbK.pv1 _ _ hp
       have hmb:0≤m∧m≤4294967295:=by unfold pvK at hp;split at hp;cases hp;omega
       have hc3:=cmpi_any f m
       rw [hp] at hq
       dsimp only at hq
       rw [show (some m).isSome=true from rfl,← hm1]
       by_cases hfm:f≤m
       ·
        have d3:decide (cmpI f m≤0)=true:=by rw [cmpI_le];exact decide_eq_true hfm
        rw [if_pos hfm] at hq
        refine Wq<|qW 92 102 rfl<|qM rfl<|qM rfl<|gF rfl rfl ty138 rfl<|gL rfl rfl ty29 rfl<|gF rfl rfl ty219 rfl<|gL rfl rfl ty3 rfl<|gM rfl rfl<|qU rfl rfl rfl (LO.callF (fr:=[]) rfl rfl hc3 fok136 (.cons rfl (.pure rfl) (.cons rfl (.pure rfl) .nil)) rfl)<|gLe rfl rfl<|qT rfl rfl rfl<|Nl<|Wt rfl ‹_›<|qW 106 114 rfl<|qM rfl<|qF rfl ty219 rfl<|qL rfl ty3 rfl<|qM rfl<|Od rfl rfl (Bs rfl ty219 (.cons rfl rfl rfl rfl (Sl rfl) (.cons rfl rfl rfl rfl (Sl rfl) .nil)))<|Od rfl rfl (LO.buildSlice rfl ty128 ty219 (by decide) (by decide) (.cons rfl rfl rfl rfl (Sl rfl) .nil))<|Od rfl rfl (Lap rfl rfl (Sso rfl rfl (Tl rfl)) rfl (spns_all rfl) ty128 ty128 ty219 (by decide) (by omega) (by omega) (by decide))<|qA rfl<|Nl ?_
        rw [spn_snocL _ f m,show q.length + 1=(q++[(f,m)]).length from by simp]
        intro yJ KJ hJ
        refine W.renameJ [(0,0),(1,112),(2,2),(3,50)] 4 (by decide) ?_ ?_ (hJ (q++[(f,m)]) (show (q++[(f,m)]).length≤ol + j + 1∧(q++[(f,m)])++(match nxK y.2 with|some n=>if n > t then [] else mnX nxK pvK n t (b.drop (j + 1))|none=>[])=Z from ⟨by simp;omega,hq⟩))
        ·exact lC (lR rfl) (lC (lI rfl) (lC (lI rfl) (lC (lI rfl) (lC (lI rfl) (lC (lR rfl) (lC (lR rfl) (lC (lR rfl) (lC (lR rfl) (lC (lR rfl) (lC (lR rfl) (lC (lR rfl) lN)))))))))))
        ·exact aU (kR rfl) (aU (kR rfl) (aU (kP rfl (spnsC_pure _)) (aU (kR rfl) aM)))
       ·
        have d3:decide (cmpI f m≤0)=false:=by rw [cmpI_le];exact decide_eq_false hfm
        rw [if_neg hfm,List.append_nil] at hq
        refine Wq<|qW 92 102 rfl<|qM rfl<|qM rfl<|gF rfl rfl ty138 rfl<|gL rfl rfl ty29 rfl<|gF rfl rfl ty219 rfl<|gL rfl rfl ty3 rfl<|gM rfl rfl<|qU rfl rfl rfl (LO.callF (fr:=[]) rfl rfl hc3 fok136 (.cons rfl (.pure rfl) (.cons rfl (.pure rfl) .nil)) rfl)<|gLe rfl rfl<|qT rfl rfl rfl<|Nl<|Wo rfl ‹_›<|Wu ?_
        intro yJ KJ hJ
        refine W.renameJ [(0,0),(1,1),(2,2),(3,50)] 4 (by decide) ?_ ?_ (hJ q (show q.length≤ol + j + 1∧q++(match nxK y.2 with|some n=>if n > t then [] else mnX nxK pvK n t (b.drop (j + 1))|none=>[])=Z from ⟨by omega,hq⟩))
        ·exact lC (lR rfl) (lC (lI rfl) (lC (lI rfl) (lC (lI rfl) (lC (lI rfl) (lC (lR rfl) (lC (lR rfl) (lC (lR rfl) (lC (lR rfl) (lC (lR rfl) (lC (lR rfl) (lC (lR rfl) lN)))))))))))
        ·exact aU (kR rfl) (aU (kR rfl) (aU (kP rfl (spnsC_pure _)) (aU (kR rfl) aM)))
     clear hq hql
     obtain ⟨hql,hq⟩:=hIJ
     refine Wq<|qW 118 128 rfl<|qF rfl ty138 rfl<|qL rfl ty136 rfl<|qF rfl ty219 rfl<|qL rfl ty3 rfl<|Od rfl rfl (LO.callF (fr:=[]) rfl rfl hnx fok444 (.cons rfl (.pure rfl) .nil) rfl)<|qM rfl<|qX rfl<|qX rfl<|qA rfl<|qA rfl<|Nl ?_
     cases hn:nxK y.2 with
     | none =>
      rw [hn,List.append_nil] at hq
      rw [show (none:Option Int).isSome=false from rfl]
      clear ihB
      refine Wq<|Wq<|qW 132 143 rfl<|qM rfl<|qO rfl<|qM rfl<|qD rfl rfl rfl<|qD rfl rfl rfl<|qD rfl rfl rfl<|qD rfl rfl rfl<|qD rfl rfl rfl<|qD rfl rfl rfl<|qD rfl rfl rfl<|qT rfl rfl rfl<|Nl<|Wt rfl rfl<|Wq<|qW 147 148 rfl<|qA rfl<|Nl<|Wx<|Wq<|qW 165 166 rfl<|qM rfl<|Nl<|Wo rfl rfl<|Wu<|qW 179 181 rfl<|qZ rfl (iW _ (by omega))<|qM rfl<|Nl ?_
      rw [hkk]
      refine WL.rename [(0,0),(1,1)] 2 (by decide) ?_ ?_ (ihA ((k + 1),q2) (show a.length - (k + 1) < a.length - k from by omega) (show (k + 1)≤a.length∧q2.length≤bd600 (k + 1)∧q2=minR (a.take (k + 1)) b from ⟨by omega,by omega,by rw [hnext];exact hq⟩))
      ·exact aR (aR (aR (aI (aI (aR aM)))))
      ·exact aU (kP rfl (spnsC_pure _)) (aU (kR rfl) aM)
     | some n =>
      have hn1:=nbK.nx1 _ _ hn
      have hnb:0≤n∧n≤4294967295:=by unfold nxK at hn;split at hn;cases hn;omega
      have hc4:=cmpi_any n t
      rw [hn] at hq
      dsimp only at hq
      rw [show (some n).isSome=true from rfl,← hn1]
      by_cases hnt:n > t
      ·have d4:decide (cmpI n t > 0)=true:=by rw [cmpI_gt0];exact decide_eq_true hnt
       rw [if_pos hnt,List.append_nil] at hq
       clear ihB
       refine Wq<|Wq<|qW 132 143 rfl<|qM rfl<|qO rfl<|qM rfl<|gF rfl rfl ty138 rfl<|gL rfl rfl ty29 rfl<|gM rfl rfl<|gF rfl rfl ty219 rfl<|gL rfl rfl ty3 rfl<|qU rfl rfl rfl (LO.callF (fr:=[]) rfl rfl hc4 fok136 (.cons rfl (.pure rfl) (.cons rfl (.pure rfl) .nil)) rfl)<|gGt rfl rfl<|qP rfl rfl rfl<|Nl<|Wt rfl ‹_›<|Wq<|qW 147 148 rfl<|qA rfl<|Nl<|Wx<|Wq<|qW 165 166 rfl<|qM rfl<|Nl<|Wo rfl rfl<|Wu<|qW 179 181 rfl<|qZ rfl (iW _ (by omega))<|qM rfl<|Nl ?_
       rw [hkk]
       refine WL.rename [(0,0),(1,1)] 2 (by decide) ?_ ?_ (ihA ((k + 1),q2) (show a.length - (k + 1) < a.length - k from by omega) (show (k + 1)≤a.length∧q2.length≤bd600 (k + 1)∧q2=minR (a.take (k + 1)) b from ⟨by omega,by omega,by rw [hnext];exact hq⟩))
       ·exact aR (aR (aR (aI (aI (aR aM)))))
       ·exact aU (kP rfl (spnsC_pure _)) (aU (kR rfl) aM)
      ·have d4:decide (cmpI n t > 0)=false:=by rw [cmpI_gt0];exact decide_eq_false hnt
       rw [if_neg hnt] at hq
       refine Wq<|Wq<|qW 132 143 rfl<|qM rfl<|qO rfl<|qM rfl<|gF rfl rfl ty138 rfl<|gL rfl rfl ty29 rfl<|gM rfl rfl<|gF rfl rfl ty219 rfl<|gL rfl rfl ty3 rfl<|qU rfl rfl rfl (LO.callF (fr:=[]) rfl rfl hc4 fok136 (.cons rfl (.pure rfl) (.cons rfl (.pure rfl) .nil)) rfl)<|gGt rfl rfl<|qP rfl rfl rfl<|Nl<|Wo rfl ‹_›<|Wu<|qW 152 155 rfl<|qM rfl<|qF rfl ty219 rfl<|qS rfl ty3 (Sl rfl) rfl<|Nl<|qW 159 161 rfl<|qZ rfl (iW _ (by omega))<|qM rfl<|Nl ?_
       rw [hjj]
       refine WL.rename [(0,0),(1,1),(2,2)] 3 (by decide) ?_ ?_ (ihB ((j + 1),n,q2) (show b.length - (j + 1) < b.length - j from by omega) (show (j + 1)≤b.length∧q2.length≤ol + (j + 1)∧(0≤n∧n≤4294967295)∧q2++mnX nxK pvK n t (b.drop (j + 1))=Z from ⟨by omega,by omega,hnb,hq⟩))
       ·exact aR (aR (aR (aR (aR (aR (aR (aI (aI (aI (aR aM))))))))))
       ·exact aU (kR rfl) (aU (kP rfl (spnsC_pure _)) (aU (kR rfl) aM))
  ·have g2:decide ((j:Int) < (b.length:Int))=false:=decide_eq_false (by omega)
   rw [List.drop_of_length_le (by omega)] at hq
   have hq2:q++[(f,t)]=minR (a.take (k + 1)) b:=by rw [hnext,← hq];rfl
   clear ihB
   refine Wq<|qW 43 44 rfl<|qK rfl<|Nl<|Wq<|Wo rfl ‹_›<|Wx<|Wq<|qW 165 166 rfl<|qM rfl<|Nl<|Wt rfl rfl<|qW 170 175 rfl<|qM rfl<|qG rfl ty219 rfl (Tl rfl)<|Od rfl rfl (LO.buildSlice rfl ty128 ty219 (by decide) (by decide) (.cons rfl rfl rfl rfl (Sl rfl) .nil))<|Od rfl rfl (Lap rfl rfl (Sso rfl rfl (Tl rfl)) rfl (spns_all rfl) ty128 ty128 ty219 (by decide) (by omega) (by omega) (by decide))<|qA rfl<|Nl ?_
   rw [spn_snocL _ f t,show q.length + 1=(q++[(f,t)]).length from by simp]
   refine qW 179 181 rfl<|qZ rfl (iW _ (by omega))<|qM rfl<|Nl ?_
   rw [hkk]
   refine WL.rename [(0,0),(1,173)] 2 (by decide) ?_ ?_ (ihA ((k + 1),(q++[(f,t)])) (show a.length - (k + 1) < a.length - k from by omega) (show (k + 1)≤a.length∧(q++[(f,t)]).length≤bd600 (k + 1)∧(q++[(f,t)])=minR (a.take (k + 1)) b from ⟨by omega,by simp;omega,hq2⟩))
   ·exact aR (aR (aR (aI (aI (aR aM)))))
   ·exact aU (kP rfl (spnsC_pure _)) (aU (kR rfl) aM)
 ·have g1:decide ((k:Int) < (a.length:Int))=false:=decide_eq_false (by omega)
  rw [List.take_of_length_le (by omega)] at ho
  clear ihA
  refine Wq<|qW 18 19 rfl<|qK rfl<|Nl<|Wq<|Wo rfl ‹_›<|Wx<|Wq<|qW 185 187 rfl<|qM rfl<|qA rfl<|Nl<|Wy (t:=6) rfl rfl (spns_all rfl) (spnsC_pure _)<|Wz ⟨.inl rfl,_,mt,(Rc (Rt0 rfl) Rv),aM,?_⟩
  exact ⟨by rw [ho];rfl,rfl⟩
end Go.Proofs.YtbfnfgpjgdbmeaaGreatDoor
