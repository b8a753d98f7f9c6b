/-
  What is outside of resources, what is left of resources without others, whether resources cover others: the document's functions.
-/
import Derived.Test.YtbfnfgpjgdbmeaaGreatDoorNf
import Derived.Test.YtbfnfgpjgdbmeaaGreatDoorMab
namespace Go.Proofs.YtbfnfgpjgdbmeaaGreatDoor
open Go.RowKit
theorem before_pl (k:Int) (h0:0≤k - 1) (h1:k < topK) (hf:fmK (k - 1)=fmK k):AFn Tryz.prog 220 0 [.agg (adC (adOf k))] mt (.agg (adC (adOf (k - 1)))) mt:=by
 obtain ⟨a1,a2⟩:=adOf_ok (k:=k) (by omega) h1
 obtain ⟨b1,b2⟩:=adOf_ok (k:=k - 1) h0 (by omega)
 have f1:=plA_fm a1
 have f2:=plA_fm b1
 rw [a2] at f1
 rw [b2,hf,f1] at f2
 obtain ⟨a,ha⟩:∃ a,adOf k=a:=⟨_,rfl⟩
 obtain ⟨b,hb⟩:∃ b,adOf (k - 1)=b:=⟨_,rfl⟩
 rw [ha] at a1 a2 f2 ⊢
 rw [hb] at b1 b2 f2 ⊢
 have c1:=a1.lo
 have c2:=a1.hi
 have d1:=b1.lo
 have d2:=b1.hi
 unfold U64 at c1 c2 d1 d2
 have hpl:=plA_same (a:=a) (b:=b) f2
 rw [a2,b2] at hpl
 refine AFn.eq Tryz.func220 rfl rfl (Nat.le_of_ble_eq_true rfl) ?_
 by_cases hl:a.lo=0
 ·have g1:(a.lo == 0)=true:=by simp [hl]
  have hw:IntKind.u64.wrap (a.lo - 1)=b.lo:=by rw [hl,show b.lo=18446744073709551615 from by omega];decide
  have hh:a.hi - 1=b.hi:=by omega
  refine Wq<|qW 0 2 rfl<|qC rfl<|qB rfl ty36<|Nl<|Wq<|Wq<|qW 6 9 rfl<|qF rfl ty36 rfl<|qL rfl ty34 rfl<|qE rfl<|Nl<|Wt rfl ‹_›<|qW 13 18 rfl<|qF rfl ty36 rfl<|qL rfl ty34 rfl<|Od rfl rfl (LO.sub_in rfl rfl rfl (IntWalk.u64_in _ (by omega)))<|qF rfl ty36 rfl<|qS rfl ty34 (Sl rfl) rfl<|Nl<|Wq<|qW 22 27 rfl<|qF rfl ty36 rfl<|qL rfl ty34 rfl<|Od rfl rfl (LO.sub rfl rfl rfl)<|qF rfl ty36 rfl<|qS rfl ty34 (Sl rfl) rfl<|Nl ?_
  rw [hw,hh]
  refine Wq<|qW 31 33 rfl<|qG rfl ty36 rfl (Tl rfl)<|qS rfl ty36 (Sl rfl) rfl<|Nl<|Wz ⟨.inl rfl,_,mt,(Rc (Ra0 rfl rfl ty36 rfl (Tl rfl)) Rv),aM,?_⟩
  exact ⟨by rw [f2];rfl,rfl⟩
 ·have g1:(a.lo == 0)=false:=by simp [hl]
  have hh:a.lo - 1=b.lo:=by omega
  have hi:a.hi=b.hi:=by omega
  refine Wq<|qW 0 2 rfl<|qC rfl<|qB rfl ty36<|Nl<|Wq<|Wq<|qW 6 9 rfl<|qF rfl ty36 rfl<|qL rfl ty34 rfl<|qE rfl<|Nl<|Wo rfl ‹_›<|Wu<|Wq<|qW 22 27 rfl<|qF rfl ty36 rfl<|qL rfl ty34 rfl<|Od rfl rfl (LO.sub_in rfl rfl rfl (IntWalk.u64_in _ (by omega)))<|qF rfl ty36 rfl<|qS rfl ty34 (Sl rfl) rfl<|Nl ?_
  rw [hh]
  refine Wq<|qW 31 33 rfl<|qG rfl ty36 rfl (Tl rfl)<|qS rfl ty36 (Sl rfl) rfl<|Nl<|Wz ⟨.inl rfl,_,mt,(Rc (Ra0 rfl rfl ty36 rfl (Tl rfl)) Rv),aM,?_⟩
  exact ⟨by rw [f2,hi];rfl,rfl⟩
theorem asc_drop {nx:Int→Option Int} {l:List (Int × Int)} (h:Asc nx l):∀ k,Asc nx (l.drop k):=by
 intro k
 induction k generalizing l with
 | zero=>exact h
 | succ k ih =>
  cases l with
  | nil=>exact h
  | cons x l=>exact ih h.tail
def OutI (fam:Bool) (l:List (Int × Int)) (fr:Int) (op:Bool):Prop:=(op=true∧fmK fr=fam∧(0≤fr∧fr < topK)∧∀ z∈l,fmK z.1=fam→fr≤z.1)∨(op=false∧fr=0∧∀ z∈l,fmK z.1≠fam)
theorem OutI.bd {fam:Bool} {l:List (Int × Int)} {fr:Int} {op:Bool} (h:OutI fam l fr op):0≤fr∧fr < topK:=by
 rcases h with ⟨_,_,h,_⟩|⟨_,h,_⟩
 ·exact h
 ·rw [h];exact ⟨Int.le_refl _,by decide⟩
theorem OutI.other {fam:Bool} {x:Int × Int} {l:List (Int × Int)} {fr:Int} {op:Bool} (h:OutI fam (x::l) fr op):OutI fam l fr op:=by
 rcases h with ⟨h1,h2,h3,h4⟩|⟨h1,h2,h3⟩
 ·exact .inl ⟨h1,h2,h3,fun z hz=>h4 z (.tail _ hz)⟩
 ·exact .inr ⟨h1,h2,fun z hz=>h3 z (.tail _ hz)⟩
theorem OutI.here {fam:Bool} {x:Int × Int} {l:List (Int × Int)} {fr:Int} {op:Bool} (h:OutI fam (x::l) fr op) (hx:fmK x.1=fam):op=true∧fmK fr=fmK x.1:=by
 rcases h with ⟨h1,h2,_,_⟩|⟨_,_,h3⟩
 ·exact ⟨h1,h2.trans hx.symm⟩
 ·exact absurd hx (h3 x (by simp))
theorem OutI.next {fam:Bool} {x:Int × Int} {l:List (Int × Int)} (ha:Asc nxK (x::l)) (hi:∀ z∈x::l,InF z) (hx:fmK x.1=fam):OutI fam l ((nxK x.2).getD 0) (nxK x.2).isSome:=by
 have hxi:=hi x (by simp)
 cases hq:nxK x.2 with
 | none =>
  refine .inr ⟨rfl,rfl,fun z hz e=>?_⟩
  have h1:=ha.gt z hz
  have h2:=nbK.nx0 _ hq z.1 (hi z (.tail _ hz)).b1.2 (by rw [e,← hxi.1.2,hx])
  omega
 | some n =>
  have h1:=nbK.nx1 _ _ hq
  have h2:=nbK.nxf _ _ hq
  have h3:n < topK:=by have:=hxi.b2;unfold nxK at hq;split at hq;cases hq;unfold topK at *;omega
  have h4:=hxi.b2
  refine .inl ⟨rfl,by show fmK n=fam;rw [h2,← hxi.1.2,hx],⟨by show 0≤n;omega,h3⟩,fun z hz _=>?_⟩
  have:=ha.gt z hz
  show n≤z.1
  omega
theorem outL_other {nx:Int→Option Int} {fam:Bool} {last:Int} {x:Int × Int} {l:List (Int × Int)} {fr:Int} {op:Bool} (h:fmK x.1≠fam):outL nx fam last (x::l) fr op=outL nx fam last l fr op:=by
 conv=>lhs;unfold outL
 rw [if_pos h]
theorem outL_here {nx:Int→Option Int} {fam:Bool} {last:Int} {x:Int × Int} {l:List (Int × Int)} {fr:Int} {op:Bool} (h:fmK x.1=fam):outL nx fam last (x::l) fr op=(if fr < x.1 then [(fr,x.1 - 1)] else [])++outL nx fam last l ((nx x.2).getD 0) (nx x.2).isSome:=by
 conv=>lhs;unfold outL
 rw [if_neg fun h2=>h2 h]
 congr 1
 cases nx x.2<;>rfl
def fam0 (v:Bool):Int:=if v then 4294967296 else 0
def famE (v:Bool):Int:=if v then 340282366920938463463374607436063178751 else 4294967295
theorem fam0_ad (v:Bool):adOf (fam0 v)=⟨v,0,0⟩:=by cases v<;>rfl
theorem fam0_pok (v:Bool):PreOk ⟨⟨v,0,0⟩,0⟩:=by
 refine pok_of ⟨?_,⟨Int.le_refl _,(by decide:(0:Int) < 18446744073709551616)⟩,⟨Int.le_refl _,(by decide:(0:Int) < 18446744073709551616)⟩⟩ (Int.le_refl 0) (by unfold widthA;cases v<;>decide) ⟨0,by unfold nmA;simp⟩
 cases v<;>rfl
theorem fam0_pl (v:Bool):plP ⟨⟨v,0,0⟩,0⟩=(fam0 v,famE v):=by
 have h:=(fam0_pok v).pl.2.1
 have h1:(plP ⟨⟨v,0,0⟩,0⟩).1=fam0 v:=by unfold plP plA fam0;cases v<;>rfl
 have h2:(2:Int) ^ frP ⟨⟨v,0,0⟩,0⟩=famE v + 1 - fam0 v:=by unfold frP widthA famE fam0;cases v<;>decide
 refine Prod.ext h1 ?_
 rw [h,h1,h2]
 show _=famE v
 omega
set_option maxHeartbeats 2000000 in
theorem outside_any (l:List (Int × Int)) (ha:Asc nxK l) (hi:∀ z∈l,InF z) (hn:l.length≤256):AFn Tryz.prog 154 0 [.isl (rngsC l) l.length] mt (.isl (rngsC (outR l)) (outR l).length) mt:=by
 refine AFn.eq Tryz.func154 rfl rfl (Nat.le_of_ble_eq_true rfl) ?_
 have key:∀ v:Bool,outL nxK v (famE v) l (fam0 v) true=if v then outL nxK true 340282366920938463463374607436063178751 l 4294967296 true else outL nxK false 4294967295 l 0 true:=fun v=>by cases v<;>rfl
 refine Wq<|qW 0 1 rfl<|qA rfl<|Nl<|Wq<|qW 5 6 rfl<|qA rfl<|Nl<|W.name 6 (6 + 1) (t:=3) (sz:=6) rfl (by decide) (by decide)<|Wq<|Wq<|qW 10 13 rfl<|Od rfl rfl (LO.buildSlice rfl ty75 ty4 (by decide) (by decide) (.cons rfl rfl rfl rfl (Sl rfl) (.cons rfl rfl rfl rfl (Sl rfl) .nil)))<|Od rfl rfl (LO.len rfl rfl ty75)<|qM rfl<|Nl<|Wb<|W.rename [(0,6),(1,10)] 2 (by decide) ?_ ?_ (W.loop_ind (α:=Nat × List (Int × Int)) (fun x=>2 - x.1) 2 (fun x=>up (up (up (up (up mt 0 (some (.isl (rngsC l) l.length))) 3 (some (.osl 0 0 x.2.length 6))) 10 (some (.osl 1 0 2 1))) 11 (some (.base (.int .i64 2)))) 12 (some (.base (.int .i64 (x.1:Int))))) (fun x=>up (up mt 0 (some (rngsC x.2))) 1 (some ([.base (.bool false),.base (.bool true)]))) (fun x=>(x.1=0∧x.2=[])∨(x.1=1∧x.2=outL nxK false (famE false) l (fam0 false) true∧x.2.length≤600)∨(x.1=2∧x.2=outR l)) (0,(([]:List (Int × Int)))) (show (0=0∧(([]:List (Int × Int)))=[])∨(0=1∧(([]:List (Int × Int)))=outL nxK false (famE false) l (fam0 false) true∧(([]:List (Int × Int))).length≤600)∨(0=2∧(([]:List (Int × Int)))=outR l) from .inl ⟨rfl,rfl⟩) ?_)
 ·exact aR (aR (aI (aI (aR aM))))
 ·exact aU (kR rfl) (aU (kR rfl) aM)
 rintro ⟨i,o⟩ hIA ihA
 try (dsimp only at hIA)
 try dsimp only
 have hcase:(∃ v:Bool,i=(if v then 1 else 0)∧o.length≤600∧∀ o',o'=o++outL nxK v (famE v) l (fam0 v) true→o'.length≤o.length + 600→((i + 1=0∧o'=[])∨(i + 1=1∧o'=outL nxK false (famE false) l (fam0 false) true∧o'.length≤600)∨(i + 1=2∧o'=outR l)))∨(i=2∧o=outR l):=by
  rcases hIA with ⟨h1,h2⟩|⟨h1,h2,h3⟩|h
  ·exact .inl ⟨false,h1,by rw [h2];simp,fun o' e hl=>.inr (.inl ⟨by omega,by rw [e,h2];rfl,by rw [h2] at hl;simpa using hl⟩)⟩
  ·exact .inl ⟨true,h1,h3,fun o' e _=>.inr (.inr ⟨by omega,by rw [e,h2];rfl⟩)⟩
  ·exact .inr h
 rcases hcase with ⟨v,hi1,hol,hfin⟩|⟨h1,h2⟩
 ·have g1:decide ((i:Int) < 2)=true:=decide_eq_true (by cases v<;>simp at hi1<;>omega)
  have hii:(i:Int) + 1=((i + 1:Nat):Int):=by omega
  have hi2:i < 2:=by cases v<;>simp at hi1<;>omega
  have hbt:([.base (.bool false),.base (.bool true)]:List AV)[0 + i * 1]?=some (.base (.bool v)):=by cases v<;>simp at hi1<;>rw [hi1]<;>rfl
  obtain ⟨O,hO⟩:∃ O,o++outL nxK v (famE v) l (fam0 v) true=O:=⟨_,rfl⟩
  rw [hO] at hfin
  have hst:OutI v l (fam0 v) true:=.inl ⟨rfl,by cases v<;>rfl,by cases v<;>decide,fun z hz hf=>by
   have:=(hi z hz).2.1
   unfold fam0
   cases v with
   | false=>exact this
   | true=>unfold fmK at hf;exact of_decide_eq_true hf⟩
  have hpl:=rlast_ok _ (fam0_pok v)
  rw [fam0_pl] at hpl
  have hfe:(fam0 v,famE v).2=famE v:=rfl
  rw [hfe] at hpl
  refine Wq<|qW 17 18 rfl<|qK rfl<|Nl<|Wq<|Wt rfl ‹_›<|Wu<|Wq<|Wb<|Wq<|qW 22 25 rfl<|Od rfl rfl (Ia rfl rfl rfl rfl ty75 ty4 (by omega))<|Od rfl rfl (Ld rfl rfl rfl hbt ty4 rfl)<|qA rfl<|Nl<|Wq<|qW 29 34 rfl<|qM rfl<|Od rfl rfl (Bs rfl ty36 (.cons rfl rfl rfl rfl (Sl rfl) .nil))<|qB rfl ty36<|qS rfl ty36 (Sl rfl) rfl<|qA rfl<|Nl ?_
  rw [show ([.base (.bool v),.base (.int .u64 0),.base (.int .u64 0)]:List AV)=adC (adOf (fam0 v)) from by rw [fam0_ad];rfl]
  refine Wq<|Wq<|qW 38 41 rfl<|qM rfl<|qH rfl ty43<|qM rfl<|Nl<|Wb<|W.rename [(0,0),(1,1),(2,31)] 3 (by decide) ?_ ?_ (W.loop_ind (α:=Nat × List (Int × Int) × Int × Bool) (fun x=>l.length - x.1) 3 (fun x=>up (up (up (up (up (up (up (up (up (up (up mt 0 (some (.isl (rngsC l) l.length))) 3 (some (.osl 0 0 x.2.1.length 6))) 5 (some (.base (.bool v)))) 6 (some (.own 2 0))) 7 (some (.base (.bool x.2.2.2)))) 10 (some (.osl 1 0 2 1))) 11 (some (.base (.int .i64 2)))) 12 (some (.base (.int .i64 (i:Int))))) 18 (some (.isl (rngsC l) l.length))) 19 (some (.base (.int .i64 (l.length:Int))))) 20 (some (.base (.int .i64 (x.1:Int))))) (fun x=>up (up (up mt 0 (some (rngsC x.2.1))) 1 (some ([.base (.bool false),.base (.bool true)]))) 2 (some (adC (adOf x.2.2.1)))) (fun x=>x.1≤l.length∧x.2.1.length≤o.length + x.1∧OutI v (l.drop x.1) x.2.2.1 x.2.2.2∧x.2.1++outL nxK v (famE v) (l.drop x.1) x.2.2.1 x.2.2.2=O) (0,o,(fam0 v),true) (show 0≤l.length∧o.length≤o.length + 0∧OutI v (l.drop 0) (fam0 v) true∧o++outL nxK v (famE v) (l.drop 0) (fam0 v) true=O from ⟨Nat.zero_le _,Nat.le_refl _,hst,hO⟩) ?_)
  ·exact aR (aR (aR (aR (aR (aI (aR (aI (aR (aI (aR aM))))))))))
  ·exact aU (kR rfl) (aU (kR rfl) (aU (kP rfl (rngsC_pure _)) aM))
  rintro ⟨j,q,fr,op⟩ hIB ihB
  try (dsimp only at hIB)
  try dsimp only
  obtain ⟨hj,hql,hOI,hq⟩:=hIB
  have hfb:=hOI.bd
  by_cases hc:j < l.length
  ·have g2:decide ((j:Int) < (l.length:Int))=true:=decide_eq_true (by omega)
   have hjj:(j:Int) + 1=((j + 1:Nat):Int):=by omega
   have hut:=rng_tk' hc
   have hui:=hi l[j] (List.getElem_mem hc)
   have hdi:∀ z∈l[j]::l.drop (j + 1),InF z:=fun z hz=>by
    rw [← List.drop_eq_getElem_cons hc] at hz
    exact hi z (List.mem_of_mem_drop hz)
   have hda:Asc nxK (l[j]::l.drop (j + 1)):=by
    rw [← List.drop_eq_getElem_cons hc]
    exact asc_drop ha j
   rw [List.drop_eq_getElem_cons hc] at hOI hq
   obtain ⟨u,hu⟩:∃ u,l[j]=u:=⟨_,rfl⟩
   rw [hu] at hut hui hOI hq hda hdi
   refine Wq<|qW 45 46 rfl<|qK rfl<|Nl<|Wq<|Wt rfl ‹_›<|Wu<|Wq<|Wb<|Wq<|qW 50 54 rfl<|qJ rfl rfl ty43 ty80 (by omega)<|Od rfl rfl (Lg rfl rfl ty80 rfl hut)<|qB rfl ty80<|qS rfl ty80 (Sl rfl) rfl<|Nl ?_
   by_cases hf:fmK u.1=v
   ·have d1:((adOf u.1).v6 != v)=false:=by rw [plVA hui.b1,hf];simp
    obtain ⟨hop,hff⟩:=hOI.here hf
    have hcm:=rcmp_pl fr u.1 hfb hui.b1
    have hnx:=rnext_pl u.2 hui.b2
    have hON:=OutI.next hda hdi hf
    rw [outL_here hf,← List.append_assoc] at hq
    refine Wq<|Wq<|qW 58 63 rfl<|qF rfl ty80 rfl<|qF rfl ty36 rfl<|qL rfl ty4 rfl<|qM rfl<|Od rfl rfl (LO.neq_bool rfl rfl rfl ty4)<|Nl<|Wo rfl ‹_›<|Wu ?_
    by_cases hlt:fr < u.1
    ·have d2:decide (cmpI fr u.1 < 0)=true:=by rw [cmpI_lt0];exact decide_eq_true hlt
     rw [if_pos hlt] at hq
     have hbf:=before_pl u.1 (by omega) hui.b1.2 (by
      unfold fmK at hff ⊢
      by_cases c:4294967296≤fr
      ·rw [decide_eq_true (by omega:4294967296≤u.1 - 1),decide_eq_true (by omega:4294967296≤u.1)]
      ·rw [decide_eq_false c] at hff
       have:¬ 4294967296≤u.1:=of_decide_eq_false hff.symm
       rw [decide_eq_false (by omega:¬ 4294967296≤u.1 - 1),decide_eq_false this])
     refine Wq<|Wq<|qW 67 72 rfl<|qG rfl ty36 rfl (Tl rfl)<|qF rfl ty80 rfl<|qG rfl ty36 rfl (Tl rfl)<|qY rfl (hcm) fok29 rfl<|qK rfl<|Nl<|Wt rfl ‹_›<|Wd 76 85 (by decide) rfl mixed rfl<|qM rfl<|qG rfl ty36 rfl (Tl rfl)<|qF rfl ty80 rfl<|qG rfl ty36 rfl (Tl rfl)<|qY rfl (hbf) fok220 rfl<|Od rfl rfl (Bs rfl ty80 (.cons rfl rfl rfl rfl (Sl rfl) (.cons rfl rfl rfl rfl (Sl rfl) .nil)))<|Od rfl rfl (LO.buildSlice rfl ty43 ty80 (by decide) (by decide) (.cons rfl rfl rfl rfl (Sl rfl) .nil))<|Od rfl rfl (Lap rfl rfl (Sso rfl rfl (Tl rfl)) rfl (rngs_all rfl) ty43 ty43 ty80 (by decide) (by omega) (by omega) (by decide))<|qA rfl<|Nl ⟨by kernel_rfl,?_⟩
     rw [rng_snocA (k:=fr) rfl,show q.length + 1=(q++[(fr,u.1 - 1)]).length from by simp]
     refine qW 89 97 rfl<|qF rfl ty80 rfl<|qG rfl ty36 rfl (Tl rfl)<|qY rfl (hnx) fok146 rfl<|qM rfl<|qX rfl<|qX rfl<|qS rfl ty36 (Sl rfl) rfl<|qA rfl<|Nl<|qW 101 103 rfl<|qZ rfl (iW _ (by omega))<|qM rfl<|Nl ?_
     rw [hjj]
     refine WL.rename [(0,83),(1,1),(2,2)] 3 (by decide) ?_ ?_ (ihB ((j + 1),(q++[(fr,u.1 - 1)]),((nxK u.2).getD 0),((nxK u.2).isSome)) (show l.length - (j + 1) < l.length - j from by omega) (show (j + 1)≤l.length∧(q++[(fr,u.1 - 1)]).length≤o.length + (j + 1)∧OutI v (l.drop (j + 1)) ((nxK u.2).getD 0) ((nxK u.2).isSome)∧(q++[(fr,u.1 - 1)])++outL nxK v (famE v) (l.drop (j + 1)) ((nxK u.2).getD 0) ((nxK u.2).isSome)=O from ⟨by omega,by simp;omega,hON,hq⟩))
     ·exact aR (aR (aR (aR (aR (aI (aR (aI (aR (aI (aR aM))))))))))
     ·exact aU (kR rfl) (aU (kR rfl) (aU (kP rfl (rngsC_pure _)) aM))
    ·have d2:decide (cmpI fr u.1 < 0)=false:=by rw [cmpI_lt0];exact decide_eq_false hlt
     rw [if_neg hlt,List.append_nil] at hq
     refine Wq<|Wq<|qW 67 72 rfl<|qG rfl ty36 rfl (Tl rfl)<|qF rfl ty80 rfl<|qG rfl ty36 rfl (Tl rfl)<|qY rfl (hcm) fok29 rfl<|qK rfl<|Nl<|Wo rfl ‹_›<|Wu<|qW 89 97 rfl<|qF rfl ty80 rfl<|qG rfl ty36 rfl (Tl rfl)<|qY rfl (hnx) fok146 rfl<|qM rfl<|qX rfl<|qX rfl<|qS rfl ty36 (Sl rfl) rfl<|qA rfl<|Nl<|qW 101 103 rfl<|qZ rfl (iW _ (by omega))<|qM rfl<|Nl ?_
     rw [hjj]
     refine WL.rename [(0,0),(1,1),(2,2)] 3 (by decide) ?_ ?_ (ihB ((j + 1),q,((nxK u.2).getD 0),((nxK u.2).isSome)) (show l.length - (j + 1) < l.length - j from by omega) (show (j + 1)≤l.length∧q.length≤o.length + (j + 1)∧OutI v (l.drop (j + 1)) ((nxK u.2).getD 0) ((nxK u.2).isSome)∧q++outL nxK v (famE v) (l.drop (j + 1)) ((nxK u.2).getD 0) ((nxK u.2).isSome)=O from ⟨by omega,by omega,hON,hq⟩))
     ·exact aR (aR (aR (aR (aR (aI (aR (aI (aR (aI (aR aM))))))))))
     ·exact aU (kR rfl) (aU (kR rfl) (aU (kP rfl (rngsC_pure _)) aM))
   ·have d1:((adOf u.1).v6 != v)=true:=by rw [plVA hui.b1];simpa using hf
    rw [outL_other hf] at hq
    refine Wq<|Wq<|qW 58 63 rfl<|qF rfl ty80 rfl<|qF rfl ty36 rfl<|qL rfl ty4 rfl<|qM rfl<|Od rfl rfl (LO.neq_bool rfl rfl rfl ty4)<|Nl<|Wt rfl ‹_›<|Wx<|qW 101 103 rfl<|qZ rfl (iW _ (by omega))<|qM rfl<|Nl ?_
    rw [hjj]
    refine WL.rename [(0,0),(1,1),(2,2)] 3 (by decide) ?_ ?_ (ihB ((j + 1),q,fr,op) (show l.length - (j + 1) < l.length - j from by omega) (show (j + 1)≤l.length∧q.length≤o.length + (j + 1)∧OutI v (l.drop (j + 1)) fr op∧q++outL nxK v (famE v) (l.drop (j + 1)) fr op=O from ⟨by omega,by omega,hOI.other,hq⟩))
    ·exact aR (aR (aR (aR (aR (aI (aR (aI (aR (aI (aR aM))))))))))
    ·exact aU (kR rfl) (aU (kR rfl) (aU (kP rfl (rngsC_pure _)) aM))
  ·have g2:decide ((j:Int) < (l.length:Int))=false:=decide_eq_false (by omega)
   rw [List.drop_of_length_le (by omega)] at hq
   clear ihB
   refine Wq<|qW 45 46 rfl<|qK rfl<|Nl<|Wq<|Wo rfl ‹_›<|Wx ?_
   cases op with
   | true =>
    have hq2:q++[(fr,famE v)]=O:=hq
    refine Wq<|qW 107 108 rfl<|qM rfl<|Nl<|Wt rfl rfl<|Wd 112 122 (by decide) rfl mixed rfl<|qM rfl<|qG rfl ty36 rfl (Tl rfl)<|qM rfl<|Od rfl rfl (Bs rfl ty36 (.cons rfl rfl rfl rfl (Sl rfl) .nil))<|Od rfl rfl (Bs rfl ty38 (.cons rfl rfl rfl rfl (Sl rfl) .nil))<|qY rfl (hpl) fok30 rfl<|Od rfl rfl (Bs rfl ty80 (.cons rfl rfl rfl rfl (Sl rfl) (.cons rfl rfl rfl rfl (Sl rfl) .nil)))<|Od rfl rfl (LO.buildSlice rfl ty43 ty80 (by decide) (by decide) (.cons rfl rfl rfl rfl (Sl rfl) .nil))<|Od rfl rfl (Lap rfl rfl (Sso rfl rfl (Tl rfl)) rfl (rngs_all rfl) ty43 ty43 ty80 (by decide) (by omega) (by omega) (by decide))<|qA rfl<|Nl ⟨by kernel_rfl,?_⟩
    rw [rng_snocA (k:=fr) rfl,show q.length + 1=(q++[(fr,famE v)]).length from by simp]
    refine qW 126 128 rfl<|qZ rfl (iW _ (by omega))<|qM rfl<|Nl ?_
    rw [hii]
    refine WL.rename [(0,120),(1,1)] 2 (by decide) ?_ ?_ (ihA ((i + 1),(q++[(fr,famE v)])) (show 2 - (i + 1) < 2 - i from by omega) (show ((i + 1)=0∧(q++[(fr,famE v)])=[])∨((i + 1)=1∧(q++[(fr,famE v)])=outL nxK false (famE false) l (fam0 false) true∧(q++[(fr,famE v)]).length≤600)∨((i + 1)=2∧(q++[(fr,famE v)])=outR l) from hfin _ hq2 (by simp;omega)))
    ·exact aR (aR (aI (aI (aR aM))))
    ·exact aU (kR rfl) (aU (kP rfl (rngsC_pure _)) aM)
   | false =>
    have hq2:q=O:=by rw [← hq];show q=q++[];rw [List.append_nil]
    refine Wq<|qW 107 108 rfl<|qM rfl<|Nl<|Wo rfl rfl<|Wu<|qW 126 128 rfl<|qZ rfl (iW _ (by omega))<|qM rfl<|Nl ?_
    rw [hii]
    refine WL.rename [(0,0),(1,1)] 2 (by decide) ?_ ?_ (ihA ((i + 1),q) (show 2 - (i + 1) < 2 - i from by omega) (show ((i + 1)=0∧q=[])∨((i + 1)=1∧q=outL nxK false (famE false) l (fam0 false) true∧q.length≤600)∨((i + 1)=2∧q=outR l) from hfin _ hq2 (by omega)))
    ·exact aR (aR (aI (aI (aR aM))))
    ·exact aU (kR rfl) (aU (kP rfl (rngsC_pure _)) aM)
 ·have g1:decide ((i:Int) < 2)=false:=decide_eq_false (by omega)
  clear ihA
  refine Wq<|qW 17 18 rfl<|qK rfl<|Nl<|Wq<|Wo rfl ‹_›<|Wx<|Wq<|qW 132 134 rfl<|qM rfl<|qA rfl<|Nl<|Wy (t:=2) rfl rfl (rngs_all rfl) (rngsC_pure _)<|Wz ⟨.inl rfl,_,mt,(Rc (Rt0 rfl) Rv),aM,?_⟩
  exact ⟨by rw [h2];rfl,rfl⟩
end Go.Proofs.YtbfnfgpjgdbmeaaGreatDoor
