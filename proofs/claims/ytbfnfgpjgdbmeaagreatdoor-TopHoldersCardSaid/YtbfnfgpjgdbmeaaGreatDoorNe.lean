/-
  Resources of prefixes and spans; resources that are valid; what two have in common.
-/
import Derived.Test.YtbfnfgpjgdbmeaaGreatDoorVF
import Derived.Test.YtbfnfgpjgdbmeaaGreatDoorMab
namespace Go.Proofs.YtbfnfgpjgdbmeaaGreatDoor
open Go.RowKit
theorem Asc.at {nx:Int→Option Int}:∀ {l:List (Int × Int)},Asc nx l→∀ (k:Nat) (h:k + 1 < l.length),l[k].2 < l[k + 1].1∧nx l[k].2≠some l[k + 1].1:=by
 intro l
 induction l with
 | nil=>intro _ k h;simp at h
 | cons x l ih =>
  intro ha k h
  cases l with
  | nil=>simp at h
  | cons y l =>
   cases k with
   | zero=>exact ha.2.1
   | succ k=>exact ih ha.2.2 k (by simpa using h)
theorem pre_tk' {l:List Pre} {k:Nat} (h:k < l.length):Tk (presC l) (k * 4) 4 (preC l[k]):=flat_tk (c:=preC) (fun _=>rfl) h
theorem rng_snocA {l:List (Int × Int)} {a:Ad} {k z:Int} (h:adOf k=a):rngsC l++[.base (.bool a.v6),.base (.int .u64 a.hi),.base (.int .u64 a.lo),.base (.bool (adOf z).v6),.base (.int .u64 (adOf z).hi),.base (.int .u64 (adOf z).lo)]=rngsC (l++[(k,z)]):=by
 subst h;exact rng_snoc l (k,z)
set_option maxHeartbeats 2000000 in
theorem rof_any (ps:List Pre) (s:List (Int × Int)) (hps:∀ p∈ps,PreOk p) (hs:∀ z∈s,InN z) (hn:ps.length≤1000) (hm:s.length≤1000):∃ v H',AFn Tryz.prog 71 0 [.isl (presC ps) ps.length,.isl (spnsC s) s.length] mt v H'∧∃ (r:Rsc) (e:Int),RscOk r∧v=.tup [.agg (rscC r),.base (.int .i64 e)]∧H'=mt:=by
 refine AFn.ex Tryz.func71 rfl rfl (Nat.le_of_ble_eq_true rfl)<|Wq<|qW 0 2 rfl<|qB rfl ty46<|qA rfl<|Nl<|Wq<|qW 6 7 rfl<|qA rfl<|Nl<|W.name 7 (7 + 1) (t:=6) (sz:=6) rfl (by decide) (by decide)<|Wq<|Wq<|qW 11 14 rfl<|qM rfl<|qH rfl ty54<|qM rfl<|Nl<|Wb<|W.rename [(0,0),(1,7)] 2 (by decide) ?_ ?_ (W.loop_ind (α:=Nat × List (Int × Int)) (fun x=>ps.length - x.1) 2 (fun x=>up (up (up (up (up (up mt 1 (some (.isl (spnsC s) s.length))) 4 (some (.own 0 0))) 6 (some (.osl 1 0 x.2.length 6))) 11 (some (.isl (presC ps) ps.length))) 12 (some (.base (.int .i64 (ps.length:Int))))) 13 (some (.base (.int .i64 (x.1:Int))))) (fun x=>up (up mt 0 (some ([.nils,.nils]))) 1 (some (rngsC x.2))) (fun x=>x.1≤ps.length∧x.2.length=x.1∧∀ z∈x.2,InF z) (0,(([]:List (Int × Int)))) (show 0≤ps.length∧(([]:List (Int × Int))).length=0∧∀ z∈(([]:List (Int × Int))),InF z from ⟨Nat.zero_le _,rfl,fun x h=>absurd h List.not_mem_nil⟩) ?_)
 ·exact aR (aR (aR (aI (aI (aR aM)))))
 ·exact aU (kR rfl) (aU (kR rfl) aM)
 rintro ⟨k,a⟩ hIA ihA
 try (dsimp only at hIA)
 try dsimp only
 obtain ⟨hk,hal,hai⟩:=hIA
 by_cases hc:k < ps.length
 ·have g1:decide ((k:Int) < (ps.length:Int))=true:=decide_eq_true (by omega)
  have hkk:(k:Int) + 1=((k + 1:Nat):Int):=by omega
  have hpt:=pre_tk' hc
  have hpo:=hps ps[k] (List.getElem_mem hc)
  obtain ⟨p,hp⟩:∃ p,ps[k]=p:=⟨_,rfl⟩
  rw [hp] at hpt hpo
  have hval:=rpvalid_ok p hpo
  have hlast:=rlast_ok p hpo
  obtain ⟨q1,q2,q3,q4,q5⟩:=hpo.pl
  refine Wq<|qW 18 19 rfl<|qK rfl<|Nl<|Wq<|Wt rfl ‹_›<|Wu<|Wq<|Wb<|Wq<|qW 23 27 rfl<|qJ rfl rfl ty54 ty38 (by omega)<|Od rfl rfl (Lg rfl rfl ty38 rfl hpt)<|qB rfl ty38<|qS rfl ty38 (Sl rfl) rfl<|Nl<|Wq<|Wq<|qW 31 34 rfl<|qG rfl ty38 rfl (Tl rfl)<|qY rfl (hval) fok112 rfl<|qO rfl<|Nl<|Wo rfl rfl<|Wu<|Wd 45 54 (by decide) rfl mixed rfl<|qM rfl<|qF rfl ty38 rfl<|qG rfl ty36 rfl (Tl rfl)<|qG rfl ty38 rfl (Tl rfl)<|qY rfl (hlast) fok30 rfl<|Od rfl rfl (Bs rfl ty80 (.cons rfl rfl rfl rfl (Sl rfl) (.cons rfl rfl rfl rfl (Sl rfl) .nil)))<|Od rfl rfl (LO.buildSlice rfl ty43 ty80 (by decide) (by decide) (.cons rfl rfl rfl rfl (Sl rfl) .nil))<|Od rfl rfl (Lap rfl rfl (Sso rfl rfl (Tl rfl)) rfl (rngs_all rfl) ty43 ty43 ty80 (by decide) (by omega) (by omega) (by decide))<|qA rfl<|Nl ⟨by kernel_rfl,?_⟩
  rw [rng_snocA q3,show a.length + 1=(a++[((plP p).1,(plP p).2)]).length from by simp]
  refine qW 58 60 rfl<|qZ rfl (iW _ (by omega))<|qM rfl<|Nl ?_
  rw [hkk]
  refine WL.rename [(0,0),(1,52)] 2 (by decide) ?_ ?_ (ihA ((k + 1),(a++[((plP p).1,(plP p).2)])) (show ps.length - (k + 1) < ps.length - k from by omega) (show (k + 1)≤ps.length∧(a++[((plP p).1,(plP p).2)]).length=(k + 1)∧∀ z∈(a++[((plP p).1,(plP p).2)]),InF z from ⟨by omega,by simp;omega,memR hai q1⟩))
  ·exact aR (aR (aR (aI (aI (aR aM)))))
  ·exact aU (kP rfl (rngsC_pure _)) (aU (kR rfl) aM)
 ·have g1:decide ((k:Int) < (ps.length:Int))=false:=decide_eq_false (by omega)
  clear ihA
  refine Wq<|qW 18 19 rfl<|qK rfl<|Nl<|Wq<|Wo rfl ‹_›<|Wx<|Wq<|Wq<|qW 64 67 rfl<|qM rfl<|qH rfl ty44<|qM rfl<|Nl<|Wb<|W.rename [(0,0),(1,1)] 2 (by decide) ?_ ?_ (W.loop_ind (α:=Nat) (fun x=>s.length - x) 2 (fun x=>up (up (up (up (up (up mt 1 (some (.isl (spnsC s) s.length))) 4 (some (.own 0 0))) 6 (some (.osl 1 0 a.length 6))) 30 (some (.isl (spnsC s) s.length))) 31 (some (.base (.int .i64 (s.length:Int))))) 32 (some (.base (.int .i64 (x:Int))))) (fun x=>up (up mt 0 (some ([.nils,.nils]))) 1 (some (rngsC a))) (fun x=>x≤s.length) 0 (show 0≤s.length from Nat.zero_le _) ?_)
  ·exact aR (aR (aR (aI (aI (aR aM)))))
  ·exact aU (kP rfl (rngsC_pure _)) (aU (kR rfl) aM)
  rintro k hIB ihB
  try (dsimp only at hIB)
  try dsimp only
  obtain hk2:=hIB
  by_cases hc:k < s.length
  ·have g1:decide ((k:Int) < (s.length:Int))=true:=decide_eq_true (by omega)
   have hkk:(k:Int) + 1=((k + 1:Nat):Int):=by omega
   have hst:=spn_tk' hc
   obtain ⟨c1,c2,c3⟩:=hs s[k] (List.getElem_mem hc)
   obtain ⟨u,hu⟩:∃ u,s[k]=u:=⟨_,rfl⟩
   rw [hu] at hst c1 c2 c3
   have d1:decide (u.1 < 0)=false:=decide_eq_false (by omega)
   have d2:decide (u.1 > u.2)=false:=decide_eq_false (by omega)
   have d3:decide (u.2 > 4294967295)=false:=decide_eq_false (by omega)
   refine Wq<|qW 71 72 rfl<|qK rfl<|Nl<|Wq<|Wt rfl ‹_›<|Wu<|Wq<|Wb<|Wq<|qW 76 80 rfl<|qJ rfl rfl ty44 ty125 (by omega)<|Od rfl rfl (Lg rfl rfl ty125 rfl hst)<|qB rfl ty125<|qS rfl ty125 (Sl rfl) rfl<|Nl<|Wq<|qW 84 99 rfl<|qF rfl ty125 rfl<|qL rfl ty3 rfl<|qK rfl<|qM rfl<|gF rfl ‹_› ty125 rfl<|gL rfl ‹_› ty3 rfl<|gF rfl ‹_› ty125 rfl<|gL rfl ‹_› ty3 rfl<|gGt rfl ‹_›<|qP rfl ‹_› rfl<|qM rfl<|gF rfl ‹_› ty125 rfl<|gL rfl ‹_› ty3 rfl<|gGt rfl ‹_›<|qP rfl ‹_› rfl<|Nl<|Wo rfl ‹_›<|Wu<|qW 110 112 rfl<|qZ rfl (iW _ (by omega))<|qM rfl<|Nl ?_
   rw [hkk]
   refine WL.rename [(0,0),(1,1)] 2 (by decide) ?_ ?_ (ihB (k + 1) (show s.length - (k + 1) < s.length - k from by omega) (show (k + 1)≤s.length from hc))
   ·exact aR (aR (aR (aI (aI (aR aM)))))
   ·exact aU (kP rfl (rngsC_pure _)) (aU (kR rfl) aM)
  ·have g1:decide ((k:Int) < (s.length:Int))=false:=decide_eq_false (by omega)
   clear ihB
   have hra:=ranges_any a hai (by omega)
   have hsa:=spans_any s hs (by omega)
   obtain ⟨r,e,hr,hli⟩:=limited_any a s hai hs
   unfold rscC at hli
   refine Wq<|qW 71 72 rfl<|qK rfl<|Nl<|Wq<|Wo rfl ‹_›<|Wx<|Wy (t:=6) rfl rfl (rngs_all rfl) (rngsC_pure _)<|Wq<|qW 116 125 rfl<|qM rfl<|qY rfl (hra) fok76 rfl<|qM rfl<|qY rfl (hsa) fok77 rfl<|qY rfl (hli) fok75 rfl<|qX rfl<|qX rfl<|qS rfl ty46 (Sl rfl) rfl<|qA rfl<|Nl<|Wz ⟨.inl rfl,_,mt,(Rc (Ra0 rfl rfl ty46 rfl (Tl rfl)) (Rc (Rt0 rfl) Rv)),aM,?_⟩
   exact ⟨r,e,hr,rfl,rfl⟩
set_option maxHeartbeats 4000000 in
theorem rsvalid_any (r:Rsc) (hr:RscOk r):AFn Tryz.prog 72 0 [.agg (rscC r)] mt (.base (.bool true)) mt:=by
 refine AFn.eq Tryz.func72 rfl rfl (Nat.le_of_ble_eq_true rfl) ?_
 obtain ⟨ra,rai,ral,rn,rni,rnl⟩:=hr
 obtain ⟨ad,ns⟩:=r
 dsimp only at ra rai ral rn rni rnl
 unfold rscC
 dsimp only
 refine Wq<|qW 0 2 rfl<|qC rfl<|qA rfl<|Nl<|Wq<|Wq<|qW 6 10 rfl<|qF rfl ty46 rfl<|qL rfl ty43 rfl<|qH rfl ty43<|qM rfl<|Nl<|Wb<|W.rename [(0,0)] 1 (by decide) ?_ ?_ (W.loop_ind (α:=Nat) (fun x=>ad.length - x) 1 (fun x=>up (up (up (up mt 1 (some (.own 0 0))) 11 (some (.isl (rngsC ad) ad.length))) 12 (some (.base (.int .i64 (ad.length:Int))))) 13 (some (.base (.int .i64 (x:Int))))) (fun x=>up mt 0 (some ([.isl (rngsC ad) ad.length,.isl (spnsC ns) ns.length]))) (fun x=>x≤ad.length) 0 (show 0≤ad.length from Nat.zero_le _) ?_)
 ·exact aR (aR (aR (aI aM)))
 ·exact aU (kR rfl) aM
 rintro k hIA ihA
 try (dsimp only at hIA)
 try dsimp only
 obtain hk:=hIA
 by_cases hc:k < ad.length
 ·have g1:decide ((k:Int) < (ad.length:Int))=true:=decide_eq_true (by omega)
  have hkk:(k:Int) + 1=((k + 1:Nat):Int):=by omega
  have hut:=rng_tk' hc
  have hui:=rai ad[k] (List.getElem_mem hc)
  have hasc:∀ j,k=j + 1→∃ (hj:j < ad.length),ad[j].2 < ad[k].1∧nxK ad[j].2≠some ad[k].1:=fun j hj=>by
   subst hj
   exact ⟨by omega,ra.at j hc⟩
  obtain ⟨u,hu⟩:∃ u,ad[k]=u:=⟨_,rfl⟩
  rw [hu] at hut hui hasc
  obtain ⟨f1,f2⟩:=adOf_ok hui.b1.1 hui.b1.2
  obtain ⟨t1,t2⟩:=adOf_ok hui.b2.1 hui.b2.2
  have hv1:=rvalid_any (adOf u.1)
  have hv2:=rvalid_any (adOf u.2)
  rw [f1.val] at hv1
  rw [t1.val] at hv2
  have hcm:=rcmp_pl u.1 u.2 hui.b1 hui.b2
  have d1:((adOf u.1).v6 != (adOf u.2).v6)=false:=by rw [plVA hui.b1,plVA hui.b2,hui.1.2];simp
  have d2:decide (cmpI u.1 u.2 > 0)=false:=by rw [cmpI_gt0];exact decide_eq_false (by have:=hui.1.1;omega)
  refine Wq<|qW 14 15 rfl<|qK rfl<|Nl<|Wq<|Wt rfl ‹_›<|Wu<|Wq<|Wb<|Wq<|qW 19 25 rfl<|qM rfl<|qJ rfl rfl ty43 ty80 (by omega)<|Od rfl rfl (Lg rfl rfl ty80 rfl hut)<|qB rfl ty80<|qA rfl<|qS rfl ty80 (Sl rfl) rfl<|Nl<|Wq<|Wq<|qW 29 56 rfl<|qF rfl ty80 rfl<|qG rfl ty36 rfl (Tl rfl)<|qY rfl (hv1) fok114 rfl<|qO rfl<|qM rfl<|gF rfl rfl ty80 rfl<|gG rfl rfl ty36 rfl (Tl rfl)<|gY rfl rfl (hv2) fok114 rfl<|gO rfl rfl<|qP rfl rfl rfl<|qM rfl<|gF rfl rfl ty80 rfl<|gF rfl rfl ty36 rfl<|gL rfl rfl ty4 rfl<|gF rfl rfl ty80 rfl<|gF rfl rfl ty36 rfl<|gL rfl rfl ty4 rfl<|qU rfl rfl rfl (LO.neq_bool rfl rfl rfl ty4)<|qP rfl rfl rfl<|qM rfl<|gF rfl ‹_› ty80 rfl<|gG rfl ‹_› ty36 rfl (Tl rfl)<|gF rfl ‹_› ty80 rfl<|gG rfl ‹_› ty36 rfl (Tl rfl)<|gY rfl ‹_› (hcm) fok29 rfl<|gGt rfl ‹_›<|qP rfl ‹_› rfl<|Nl<|Wo rfl ‹_›<|Wu ?_
  cases k with
  | zero =>
   refine Wq<|Wq<|qW 65 67 rfl<|qM rfl<|qE rfl<|Nl<|Wt rfl rfl<|Wx<|qW 119 121 rfl<|qZ rfl (iW _ (by omega))<|qM rfl<|Nl ?_
   rw [hkk]
   refine WL.rename [(0,0)] 1 (by decide) ?_ ?_ (ihA 1 (show ad.length - 1 < ad.length - 0 from by omega) (show 1≤ad.length from hc))
   ·exact aR (aR (aR (aI aM)))
   ·exact aU (kR rfl) aM
  | succ j =>
   have h0:(((j + 1:Nat):Int) == 0)=false:=by simp;omega
   obtain ⟨hj,ha1,ha2⟩:=hasc j rfl
   have hyi:=rai ad[j] (List.getElem_mem hj)
   have hyt:=rng_toT hj (q:=j * 6 + 3) rfl
   obtain ⟨y,hy⟩:∃ y,ad[j]=y:=⟨_,rfl⟩
   rw [hy] at ha1 ha2 hyi hyt
   have hsub:((j + 1:Nat):Int) - 1=((j:Nat):Int):=by omega
   have hnx:=rnext_pl y.2 hyi.b2
   have hcm2:=rcmp_pl y.2 u.1 hyi.b2 hui.b1
   have d3:decide (cmpI y.2 u.1 ≥ 0)=false:=by rw [cmpI_ge0];exact decide_eq_false (by omega)
   refine Wq<|Wq<|qW 65 67 rfl<|qM rfl<|qE rfl<|Nl<|Wo rfl rfl<|Wu<|Wq<|qW 71 80 rfl<|qF rfl ty46 rfl<|qL rfl ty43 rfl<|qM rfl<|Od rfl rfl (LO.sub_in rfl rfl rfl (iW _ (by omega)))<|qJ rfl hsub ty43 ty80 (by omega)<|qI rfl ty80 rfl<|Od rfl rfl (Lg rfl rfl ty36 rfl hyt)<|qB rfl ty36<|qS rfl ty36 (Sl rfl) rfl<|Nl<|Wq<|qW 84 92 rfl<|qG rfl ty36 rfl (Tl rfl)<|qY rfl (hnx) fok146 rfl<|qM rfl<|qX rfl<|qX rfl<|qB rfl ty36<|qS rfl ty36 (Sl rfl) rfl<|qA rfl<|Nl ?_
   cases hq:nxK y.2 with
   | none =>
    rw [show (none:Option Int).isSome=false from rfl]
    refine Wq<|qW 96 110 rfl<|qG rfl ty36 rfl (Tl rfl)<|qF rfl ty80 rfl<|qG rfl ty36 rfl (Tl rfl)<|qY rfl (hcm2) fok29 rfl<|qGe rfl<|qM rfl<|gM rfl ‹_›<|gM rfl ‹_›<|qD rfl rfl rfl<|qD rfl rfl rfl<|qD rfl rfl rfl<|qD rfl rfl rfl<|qU rfl ‹_› rfl (Pf0 rfl rfl rfl rfl)<|qP rfl ‹_› rfl<|Nl<|Wo rfl rfl<|Wu<|qW 119 121 rfl<|qZ rfl (iW _ (by omega))<|qM rfl<|Nl ?_
    rw [hkk]
    refine WL.rename [(0,0)] 1 (by decide) ?_ ?_ (ihA (j + 1 + 1) (show ad.length - (j + 1 + 1) < ad.length - (j + 1) from by omega) (show (j + 1 + 1)≤ad.length from hc))
    ·exact aR (aR (aR (aI aM)))
    ·exact aU (kR rfl) aM
   | some n =>
    have hn2:0≤n∧n < topK:=by have h0:=nbK.nx1 _ _ hq;have:=hyi.b2;unfold nxK at hq;split at hq;cases hq;unfold topK at *;omega
    obtain ⟨n1,n2⟩:=adOf_ok hn2.1 hn2.2
    have hne:eqA (adOf n) (adOf u.1)=false:=eqA_false fun e=>by
     have:=congrArg plA e
     rw [n2,f2] at this
     rw [hq,this] at ha2
     exact ha2 rfl
    rw [show (some n).isSome=true from rfl,show (some n).getD 0=n from rfl]
    refine Wq<|qW 96 110 rfl<|qG rfl ty36 rfl (Tl rfl)<|qF rfl ty80 rfl<|qG rfl ty36 rfl (Tl rfl)<|qY rfl (hcm2) fok29 rfl<|qGe rfl<|qM rfl<|gM rfl ‹_›<|gM rfl ‹_›<|gG rfl rfl ty36 rfl (Tl rfl)<|gF rfl rfl ty80 rfl<|gG rfl rfl ty36 rfl (Tl rfl)<|qU rfl rfl rfl (LO.eql_adb (adOf n) (adOf u.1) hne rfl rfl rfl)<|qU rfl ‹_› rfl (Pt rfl rfl rfl rfl)<|qP rfl ‹_› rfl<|Nl<|Wo rfl rfl<|Wu<|qW 119 121 rfl<|qZ rfl (iW _ (by omega))<|qM rfl<|Nl ?_
    rw [hkk]
    refine WL.rename [(0,0)] 1 (by decide) ?_ ?_ (ihA (j + 1 + 1) (show ad.length - (j + 1 + 1) < ad.length - (j + 1) from by omega) (show (j + 1 + 1)≤ad.length from hc))
    ·exact aR (aR (aR (aI aM)))
    ·exact aU (kR rfl) aM
 ·have g1:decide ((k:Int) < (ad.length:Int))=false:=decide_eq_false (by omega)
  clear ihA
  refine Wq<|qW 14 15 rfl<|qK rfl<|Nl<|Wq<|Wo rfl ‹_›<|Wx<|Wq<|Wq<|qW 125 129 rfl<|qF rfl ty46 rfl<|qL rfl ty44 rfl<|qH rfl ty44<|qM rfl<|Nl<|Wb<|W.rename [(0,0)] 1 (by decide) ?_ ?_ (W.loop_ind (α:=Nat) (fun x=>ns.length - x) 1 (fun x=>up (up (up (up mt 1 (some (.own 0 0))) 75 (some (.isl (spnsC ns) ns.length))) 76 (some (.base (.int .i64 (ns.length:Int))))) 77 (some (.base (.int .i64 (x:Int))))) (fun x=>up mt 0 (some ([.isl (rngsC ad) ad.length,.isl (spnsC ns) ns.length]))) (fun x=>x≤ns.length) 0 (show 0≤ns.length from Nat.zero_le _) ?_)
  ·exact aR (aR (aR (aI aM)))
  ·exact aU (kR rfl) aM
  rintro k hIB ihB
  try (dsimp only at hIB)
  try dsimp only
  obtain hk2:=hIB
  by_cases hc:k < ns.length
  ·have g1:decide ((k:Int) < (ns.length:Int))=true:=decide_eq_true (by omega)
   have hkk:(k:Int) + 1=((k + 1:Nat):Int):=by omega
   have hut:=spn_tk' hc
   obtain ⟨c1,c2,c3⟩:=rni ns[k] (List.getElem_mem hc)
   have hasc:∀ j,k=j + 1→∃ (hj:j < ns.length),ns[j].2 < ns[k].1 - 1:=fun j hj=>by
    subst hj
    have h1:=rn.at j hc
    obtain ⟨e1,e2,e3⟩:=rni ns[j] (List.getElem_mem (by omega))
    refine ⟨by omega,?_⟩
    by_cases h:ns[j].2=4294967295
    ·omega
    ·have:nxK ns[j].2=some (ns[j].2 + 1):=by unfold nxK;rw [if_neg (by omega)]
     have h2:ns[j].2 + 1≠ns[j + 1].1:=fun e=>h1.2 (by rw [this,e])
     omega
   obtain ⟨u,hu⟩:∃ u,ns[k]=u:=⟨_,rfl⟩
   rw [hu] at hut c1 c2 c3 hasc
   have d1:decide (u.1 < 0)=false:=decide_eq_false (by omega)
   have d2:decide (u.1 > u.2)=false:=decide_eq_false (by omega)
   have d3:decide (u.2 > 4294967295)=false:=decide_eq_false (by omega)
   refine Wq<|qW 133 134 rfl<|qK rfl<|Nl<|Wq<|Wt rfl ‹_›<|Wu<|Wq<|Wb<|Wq<|qW 138 144 rfl<|qM rfl<|qJ rfl rfl ty44 ty125 (by omega)<|Od rfl rfl (Lg rfl rfl ty125 rfl hut)<|qB rfl ty125<|qA rfl<|qS rfl ty125 (Sl rfl) rfl<|Nl ?_
   cases k with
   | zero =>
    refine Wq<|Wd 148 180 (by decide) rfl mixed rfl<|qF rfl ty125 rfl<|qL rfl ty3 rfl<|qK rfl<|qM rfl<|gF rfl ‹_› ty125 rfl<|gL rfl ‹_› ty3 rfl<|gF rfl ‹_› ty125 rfl<|gL rfl ‹_› ty3 rfl<|gGt rfl ‹_›<|qP rfl ‹_› rfl<|qM rfl<|gF rfl ‹_› ty125 rfl<|gL rfl ‹_› ty3 rfl<|gGt rfl ‹_›<|qP rfl ‹_› rfl<|qM rfl<|gM rfl ‹_›<|gGt rfl ‹_›<|gM rfl ‹_›<|qD rfl rfl rfl<|qD rfl rfl rfl<|qD rfl rfl rfl<|qD rfl rfl rfl<|qD rfl rfl rfl<|qD rfl rfl rfl<|qD rfl rfl rfl<|qD rfl rfl rfl<|qD rfl rfl rfl<|qD rfl rfl rfl<|qD rfl rfl rfl<|qU rfl ‹_› rfl (Pf0 rfl rfl rfl rfl)<|qP rfl ‹_› rfl<|Nl ⟨by kernel_rfl,(Wo rfl rfl<|Wu<|qW 189 191 rfl<|qZ rfl (iW _ (by omega))<|qM rfl<|Nl ?_)⟩
    rw [hkk]
    refine WL.rename [(0,0)] 1 (by decide) ?_ ?_ (ihB 1 (show ns.length - 1 < ns.length - 0 from by omega) (show 1≤ns.length from hc))
    ·exact aR (aR (aR (aI aM)))
    ·exact aU (kR rfl) aM
   | succ j =>
    have h0:decide (((j + 1:Nat):Int) > 0)=true:=decide_eq_true (by omega)
    obtain ⟨hj,ha1⟩:=hasc j rfl
    have hyt:=spn_cellTo hj (q:=j * 2 + 1) rfl
    obtain ⟨y,hy⟩:∃ y,ns[j]=y:=⟨_,rfl⟩
    rw [hy] at ha1 hyt
    have hsub:((j + 1:Nat):Int) - 1=((j:Nat):Int):=by omega
    have d4:decide (y.2 ≥ u.1 - 1)=false:=decide_eq_false (by omega)
    refine Wq<|Wd 148 180 (by decide) rfl mixed rfl<|qF rfl ty125 rfl<|qL rfl ty3 rfl<|qK rfl<|qM rfl<|gF rfl ‹_› ty125 rfl<|gL rfl ‹_› ty3 rfl<|gF rfl ‹_› ty125 rfl<|gL rfl ‹_› ty3 rfl<|gGt rfl ‹_›<|qP rfl ‹_› rfl<|qM rfl<|gF rfl ‹_› ty125 rfl<|gL rfl ‹_› ty3 rfl<|gGt rfl ‹_›<|qP rfl ‹_› rfl<|qM rfl<|gM rfl ‹_›<|gGt rfl ‹_›<|gM rfl ‹_›<|gF rfl ‹_› ty46 rfl<|gL rfl ‹_› ty44 rfl<|gM rfl ‹_›<|qU rfl ‹_› rfl (LO.sub_in rfl rfl rfl (iW _ (by omega)))<|qU rfl ‹_› rfl (Ii rfl rfl rfl rfl hsub ty44 ty125 (by omega))<|qU rfl ‹_› rfl (Fi rfl rfl ty125 rfl (by decide))<|qU rfl ‹_› rfl (Li rfl rfl hyt ty3 rfl)<|gF rfl ‹_› ty125 rfl<|gL rfl ‹_› ty3 rfl<|qU rfl ‹_› rfl (LO.sub_in rfl rfl rfl (iW _ (by omega)))<|gGe rfl ‹_›<|qU rfl ‹_› rfl (Pt rfl rfl ‹_› rfl)<|qP rfl ‹_› rfl<|Nl ⟨by kernel_rfl,(Wo rfl ‹_›<|Wu<|qW 189 191 rfl<|qZ rfl (iW _ (by omega))<|qM rfl<|Nl ?_)⟩
    rw [hkk]
    refine WL.rename [(0,0)] 1 (by decide) ?_ ?_ (ihB (j + 1 + 1) (show ns.length - (j + 1 + 1) < ns.length - (j + 1) from by omega) (show (j + 1 + 1)≤ns.length from hc))
    ·exact aR (aR (aR (aI aM)))
    ·exact aU (kR rfl) aM
  ·have g1:decide ((k:Int) < (ns.length:Int))=false:=decide_eq_false (by omega)
   have d1:decide ((ad.length:Int)≤256)=true:=decide_eq_true (by omega)
   have d2:decide ((ns.length:Int)≤256)=true:=decide_eq_true (by omega)
   clear ihB
   refine Wq<|qW 133 134 rfl<|qK rfl<|Nl<|Wq<|Wo rfl ‹_›<|Wx<|Wq<|qW 195 206 rfl<|qF rfl ty46 rfl<|qL rfl ty43 rfl<|qH rfl ty43<|qLe rfl<|qM rfl<|gF rfl ‹_› ty46 rfl<|gL rfl ‹_› ty44 rfl<|gH rfl ‹_› ty44<|gLe rfl ‹_›<|qT rfl ‹_› rfl<|qA rfl<|Nl<|Wz ⟨.inl rfl,_,mt,(Rc (Rt0 rfl) Rv),aM,?_⟩
   exact ⟨by rw [d2];rfl,rfl⟩
end Go.Proofs.YtbfnfgpjgdbmeaaGreatDoor
