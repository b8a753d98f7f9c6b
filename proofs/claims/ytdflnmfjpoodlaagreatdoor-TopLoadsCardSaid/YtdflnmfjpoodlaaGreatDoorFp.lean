/-
  What is sent along one shortest way. Distances: both texts. Parts: both texts; comparing lists of numbers.
-/
import Derived.Test.YtdflnmfjpoodlaaGreatDoorLt
import Derived.Test.YtdflnmfjpoodlaaGreatDoorPg
import Derived.Test.YtdflnmfjpoodlaaGreatDoorMab
namespace Go.Proofs.YtdflnmfjpoodlaaGreatDoor
open Go.RowKit
def natsL (l:List Nat):List Int:=l.map fun (x:Nat)=>(x:Int)
def rowN (n:List Int) (u:Nat):List Int:=(List.range 8).map fun v=>cN n (u * 8 + v)
theorem c_at {n:List Int} {k:Nat} (h:k < n.length):(intsC n)[k]?=some (.base (.int .i64 (cN n k))):=by
 simp [intsC,cN,h]
theorem cc_at {n:List Int} {u v:Nat} (hn:n.length=64) (hu:u < 8) (hv:v < 8):(intsC n)[0 + u * 8 + v * 1]?=some (.base (.int .i64 (cN n (u * 8 + v)))):=by
 rw [show 0 + u * 8 + v * 1=u * 8 + v from by omega];exact c_at (by omega)
theorem cs_at {n:List Int} {u v:Nat} {x:Int} (hn:n.length=64) (hu:u < 8) (hv:v < 8):Sp (intsC n) (0 + u * 8 + v * 1) [.base (.int .i64 x)] (intsC (n.set (u * 8 + v) x)):=by
 have:=ns_at (l:=n) (k:=u * 8 + v) (v:=x) (by omega)
 rwa [show 0 + (u * 8 + v) * 1=0 + u * 8 + v * 1 from by omega] at this
theorem row_tk {n:List Int} {u:Nat} (hn:n.length=64) (hu:u < 8):Tk (intsC n) (0 + u * 8) 8 (intsC (rowN n u)):=by
 refine ⟨by simp [intsC,rowN],fun j c hj=>?_⟩
 have hj8:j < 8:=by
  rcases Nat.lt_or_ge j 8 with h|h
  ·exact h
  ·rw [List.getElem?_eq_none (by simp [intsC,rowN];exact h)] at hj;cases hj
 rw [show 0 + u * 8 + j=u * 8 + j from by omega,c_at (by omega)]
 simpa [intsC,rowN,hj8] using hj
theorem row_at {n:List Int} {u v:Nat} (hv:v < 8):(intsC (rowN n u))[v * 1]?=some (.base (.int .i64 (cN n (u * 8 + v)))):=by
 simp [intsC,rowN,hv]
theorem nq_head {p q:List Nat} {v:Nat}:(intsC (natsL (p++v::q)))[p.length + 0 * 1]?=some (.base (.int .i64 (v:Int))):=by simp [intsC,natsL]
theorem nq_tk {p q:List Nat}:Tk (intsC (natsL (p++q))) p.length (q.length * 1) (intsC (natsL q)):=by
 have h:=q_tk (p:=natsL p) (q:=natsL q)
 simpa [natsL] using h
theorem left_one {B c:Int} {fr n:List Int} {v:Nat} {p:List Nat} (h:Left B n) (hp:∀ w∈v::p,w < 8∧frN fr w < 8∧frN fr w≠w) (hnd:(v::p).Nodup) (h0:0≤c) (hc:∀ w∈v::p,c≤cN n (frN fr w * 8 + w)) :
 Left B (sendV fr c n v)∧∀ w∈p,c≤cN (sendV fr c n v) (frN fr w * 8 + w):=by
 obtain ⟨h1,h2,h3⟩:=hp v (by simp)
 obtain ⟨hnd1,hnd2⟩:=List.nodup_cons.1 hnd
 refine ⟨h.sendV h1 h2 h3 h0 (hc v (by simp)),fun u hu=>?_⟩
 obtain ⟨g1,g2,g3⟩:=hp u (by simp [hu])
 rw [sendV_cell rfl h.len h1 h2 g2 g1]
 have:=hc u (by simp [hu])
 have hne:u≠v:=fun e=>hnd1 (e ▸ hu)
 rw [if_neg (by omega)]
 split<;>omega
def AS (n:List Int) (a:Nat) (fr:List Int) (q:List Nat):Prop:=match q with
 | []=>∃ dn u,Aq n a fr dn u 8 []
 | v::q=>∃ dn,Aq n a fr dn v 0 q
theorem Aq.as {n:List Int} {a:Nat} {fr:List Int} {dn q:List Nat} {u:Nat} (h:Aq n a fr dn u 8 q):AS n a fr q:=by
 cases q with
 | nil=>exact ⟨_,_,h⟩
 | cons v q=>exact ⟨_,h.pop⟩
def AugOK (n:List Int) (a b:Nat) (c:Int) (n':List Int):Prop :=
 (c=0∧n'=n∧∃ fr dn u,Aq n a fr dn u 8 []∧gI fr b < 0) ∨
 (0 < c∧∃ fr p,PathTo fr a b p∧p.Nodup∧(∀ v∈p,v < 8∧frN fr v < 8∧frN fr v≠v)∧(∀ v∈p,c≤cN n (frN fr v * 8 + v))∧n'=sendP fr c n p)
theorem augment_any (n:List Int) (a b:Nat) (B:Int) (hn:Left B n) (hB:B≤1000000000000) (ha:a < 8) (hb:b < 8) (hab:a≠b) :
 ∃ v H',AFn Tryz.prog 53 1 [.own 0 0,.base (.int .i64 (a:Int)),.base (.int .i64 (b:Int))] (up mt 0 (some (intsC n))) v H'∧∃ c n',AugOK n a b c n'∧v=.base (.int .i64 c)∧H'=up mt 0 (some (intsC n')):=by
 refine AFn.ex Tryz.func53 rfl rfl (Nat.le_of_ble_eq_true rfl) ?_
 have hlen:=hn.len
 refine Wq<|qW 1 2 rfl<|qA rfl<|Nl<|Wq<|qW 6 7 rfl<|qB rfl ty123<|Nl<|Wq<|Wq<|qW 11 12 rfl<|qM rfl<|Nl<|Wb<|W.rename [(0,0),(1,6)] 2 (T':=up (up (up (up (up mt 0 (some (.own 0 0))) 1 (some (.base (.int .i64 (a:Int))))) 2 (some (.base (.int .i64 (b:Int))))) 7 (some (.own 1 0))) 15 (some (.base (.int .i64 (0:Int))))) (H':=up (up mt 0 (some (intsC n))) 1 (some (intsC (List.replicate 8 0)))) (by decide) ?_ ?_ ?_
 ·exact aU (lR rfl) (aU (lI rfl) (aU (lR rfl) (aU (lR rfl) (aU (lI rfl) aM))))
 ·exact aU (kR rfl) (aU (kP rfl (intsC_pure _)) aM)
 refine W.loop_ind (α:=Nat × List Int) (fun x=>8 - x.1) 2 (fun x=>up (up (up (up (up mt 0 (some (.own 0 0))) 1 (some (.base (.int .i64 (a:Int))))) 2 (some (.base (.int .i64 (b:Int))))) 7 (some (.own 1 0))) 15 (some (.base (.int .i64 (x.1:Int))))) (fun x=>up (up mt 0 (some (intsC n))) 1 (some (intsC x.2))) (fun x=>x.1≤8∧x.2=List.replicate x.1 (-1)++List.replicate (8 - x.1) 0) (0,(List.replicate 8 0)) (show 0≤8∧(List.replicate 8 0)=List.replicate 0 (-1)++List.replicate (8 - 0) 0 from ⟨Nat.zero_le _,rfl⟩) ?_
 rintro ⟨j,d⟩ hIA ihA
 try (dsimp only at hIA)
 try dsimp only
 obtain ⟨hj,hd⟩:=hIA
 have hdl:d.length=8:=by rw [hd];simp;omega
 by_cases hc:j < 8
 ·have g1:decide ((j:Int) < 8)=true:=decide_eq_true (by omega)
  refine Wq<|qW 16 17 rfl<|qK rfl<|Nl<|Wq<|Wt rfl ‹_›<|Wu<|Wq<|Wb<|Wq<|qW 21 23 rfl<|qM rfl<|qA rfl<|Nl<|qW 27 30 rfl<|qM rfl<|Od rfl rfl (Ir rfl rfl rfl rfl ty123 ty3 (by omega))<|qS rfl ty3 (ns_at (by omega)) rfl<|Nl<|qW 34 36 rfl<|qZ rfl (iW _ (by omega))<|qM rfl<|Nl<|WL.rename [(0,0),(1,1)] 2 (by decide) ?_ ?_ (ihA ((j + 1),(d.set j (-1))) (show 8 - (j + 1) < 8 - j from by omega) (show (j + 1)≤8∧(d.set j (-1))=List.replicate (j + 1) (-1)++List.replicate (8 - (j + 1)) 0 from ⟨by omega,by rw [hd];exact fill_set hc _ _⟩))
  ·exact aU (lR rfl) (aU (lI rfl) (aU (lR rfl) (aU (lR rfl) (aU (lI rfl) aM))))
  ·exact aU (kP rfl (intsC_pure _)) (aU (kP rfl (intsC_pure _)) aM)
 ·have g1:decide ((j:Int) < 8)=false:=decide_eq_false (by omega)
  refine Wq<|qW 16 17 rfl<|qK rfl<|Nl<|Wq<|Wo rfl ‹_›<|Wx ?_
  obtain rfl:j=8:=by omega
  rw [fill_full] at hd
  clear ihA hj hc g1
  subst hd
  clear hdl
  refine Wq<|qW 40 44 rfl<|qM rfl<|qM rfl<|Od rfl rfl (Ir rfl rfl rfl rfl ty123 ty3 (by omega))<|qS rfl ty3 (ns_at (by simp;omega)) rfl<|Nl ?_
  rw [← sI_nat]
  refine Wq<|Wq<|qW 48 51 rfl<|qM rfl<|Od rfl rfl (LO.buildSlice rfl ty22 ty3 (by decide) (by decide) (.cons rfl rfl rfl rfl (Sl rfl) .nil))<|qA rfl<|Nl<|Wb<|W.rename [(0,0),(1,1),(2,49)] 3 (T':=up (up (up (up (up mt 0 (some (.own 0 0))) 1 (some (.base (.int .i64 (a:Int))))) 2 (some (.base (.int .i64 (b:Int))))) 7 (some (.own 1 0))) 9 (some (.osl 2 (([]:List Nat)).length [a].length 1))) (H':=up (up (up mt 0 (some (intsC n))) 1 (some (intsC (sI (List.replicate 8 (-1)) a a)))) 2 (some (intsC (natsL ((([]:List Nat))++[a]))))) (by decide) ?_ ?_ ?_
  ·exact aU (lI rfl) (aU (lI rfl) (aU (lR rfl) (aU (lR rfl) (aU (lI rfl) aM))))
  ·exact aU (kR rfl) (aU (kP rfl (intsC_pure _)) (aU (kP rfl (intsC_pure _)) aM))
  refine W.loop_ind (α:=List Int × List Nat × List Nat) (fun x=>x.2.2.length + cntN x.1) 3 (fun x=>up (up (up (up (up mt 0 (some (.own 0 0))) 1 (some (.base (.int .i64 (a:Int))))) 2 (some (.base (.int .i64 (b:Int))))) 7 (some (.own 1 0))) 9 (some (.osl 2 x.2.1.length x.2.2.length 1))) (fun x=>up (up (up mt 0 (some (intsC n))) 1 (some (intsC x.1))) 2 (some (intsC (natsL (x.2.1++x.2.2))))) (fun x=>AS n a x.1 x.2.2∧x.2.2.length + cntN x.1≤9) ((sI (List.replicate 8 (-1)) a a),(([]:List Nat)),[a]) (show AS n a (sI (List.replicate 8 (-1)) a a) [a]∧[a].length + cntN (sI (List.replicate 8 (-1)) a a)≤9 from ⟨⟨[],Aq.start ha⟩,by have:=cntN_le (sI (List.replicate 8 (-1)) (a:Int) a);rw [sI_len,List.length_replicate] at this;simp only [List.length_cons,List.length_nil];omega⟩) ?_
  rintro ⟨fr,p,q⟩ hIB ihB
  try (dsimp only at hIB)
  try dsimp only
  obtain ⟨hIB,hbd⟩:=hIB
  cases q with
  | nil =>
   obtain ⟨dn,u,hA⟩:=hIB
   clear ihB
   have hfl:=hA.len
   refine Wq<|Wq<|qW 55 58 rfl<|qM rfl<|Od rfl rfl (LO.len rfl rfl ty22)<|qGt rfl<|Nl<|Wo rfl rfl<|Wx ?_
   by_cases hfb:gI fr b < 0
   ·have g1:decide (gI fr (b:Int) < 0)=true:=decide_eq_true hfb
    refine Wq<|Wq<|qW 131 135 rfl<|qM rfl<|Od rfl rfl (Ir rfl rfl rfl rfl ty123 ty3 (by omega))<|Od rfl rfl (Ld rfl rfl rfl (ni_at (k:=b) (by omega)) ty3 rfl)<|qK rfl<|Nl<|Wt rfl ‹_›<|Wq<|qW 139 140 rfl<|qA rfl<|Nl<|Wz ⟨.inl rfl,_,up mt 0 (some (intsC n)),Rc (Rt0 rfl) Rv,aU rfl aM,?_⟩
    exact ⟨0,n,.inl ⟨rfl,rfl,fr,dn,u,hA,hfb⟩,rfl,rfl⟩
   ·have g1:decide (gI fr (b:Int) < 0)=false:=decide_eq_false hfb
    obtain ⟨l,r,hlr⟩:=List.append_of_mem ((hA.mem b hb).1 (by omega))
    obtain ⟨P,hP,hnd,hpp⟩:=hA.path _ l r b rfl hlr
    have hpp3:∀ w∈P,w < 8∧frN fr w < 8∧frN fr w≠w:=fun w hw=>⟨(hpp w hw).2.1,(hpp w hw).2.2.1,(hpp w hw).2.2.2.1⟩
    have hpp0:∀ w∈P,0 < cN n (frN fr w * 8 + w):=fun w hw=>(hpp w hw).2.2.2.2
    have hst:∃ x ps,P=b::ps∧gI fr b=(x:Nat):=by
     cases hP with
     | nil=>exact absurd rfl hab
     | cons hv hu h=>exact ⟨_,_,rfl,hu⟩
    obtain ⟨x,ps0,hPb,hx⟩:=hst
    have hfx:frN fr b=x:=by unfold frN;rw [hx];simp
    obtain ⟨hb1,hx8,hxb⟩:=hpp3 b (by rw [hPb];simp)
    have hm0:=hpp0 b (by rw [hPb];simp)
    rw [hfx] at hx8 hxb hm0
    obtain ⟨m0,hm0e⟩:∃ m0,cN n (x * 8 + b)=m0:=⟨_,rfl⟩
    rw [hm0e] at hm0
    refine Wq<|Wq<|qW 131 135 rfl<|qM rfl<|Od rfl rfl (Ir rfl rfl rfl rfl ty123 ty3 (by omega))<|Od rfl rfl (Ld rfl rfl rfl (ni_at (k:=b) (by omega)) ty3 rfl)<|qK rfl<|Nl<|Wo rfl ‹_›<|Wu ?_
    have hgx:(intsC fr)[0 + b * 1]?=some (.base (.int .i64 (x:Int))):=by rw [← hx];exact ni_at (by omega)
    refine Wq<|Wd 144 154 (by decide) rfl mixed rfl<|qM rfl<|qM rfl<|Od rfl rfl (Ir rfl rfl rfl rfl ty123 ty3 (by omega))<|Od rfl rfl (Ld rfl rfl rfl hgx ty3 rfl)<|qM rfl<|Od rfl rfl (Nc rfl rfl)<|Od rfl rfl (Ir rfl rfl rfl rfl ty125 ty123 (by omega))<|Od rfl rfl (Ir rfl rfl rfl rfl ty123 ty3 (by omega))<|Od rfl rfl (Ld rfl rfl rfl (cc_at hlen hx8 hb) ty3 rfl)<|qA rfl<|Nl ⟨by kernel_rfl,?_⟩
    rw [hm0e]
    refine Wq<|Wq<|qW 158 160 rfl<|qM rfl<|qA rfl<|Nl ?_
    have hC:0 < leastP fr n m0 P∧∀ w∈P,leastP fr n m0 P≤cN n (frN fr w * 8 + w):=⟨leastP_pos fr n P m0 hm0 hpp0,(leastP_le fr n P m0).2⟩
    obtain ⟨c,hce⟩:∃ c,leastP fr n m0 P=c:=⟨_,rfl⟩
    rw [hce] at hC
    obtain ⟨hc0,hcle⟩:=hC
    refine Wb<|W.rename [(0,0),(1,1)] 2 (T':=up (up (up (up (up (up mt 0 (some (.own 0 0))) 1 (some (.base (.int .i64 (a:Int))))) 2 (some (.base (.int .i64 (b:Int))))) 7 (some (.own 1 0))) 12 (some (.base (.int .i64 m0)))) 13 (some (.base (.int .i64 (b:Int))))) (H':=up (up mt 0 (some (intsC n))) 1 (some (intsC fr))) (by decide) ?_ ?_ ?_
    ·exact aU (lR rfl) (aU (lR rfl) (aU (lI rfl) (aU (lR rfl) (aU (lR rfl) (aU (lI rfl) aM)))))
    ·exact aU (kP rfl (intsC_pure _)) (aU (kP rfl (intsC_pure _)) aM)
    refine W.loop_ind (α:=Nat × Int × List Nat) (fun x=>x.2.2.length) 2 (fun x=>up (up (up (up (up (up mt 0 (some (.own 0 0))) 1 (some (.base (.int .i64 (a:Int))))) 2 (some (.base (.int .i64 (b:Int))))) 7 (some (.own 1 0))) 12 (some (.base (.int .i64 x.2.1)))) 13 (some (.base (.int .i64 (x.1:Int))))) (fun x=>up (up mt 0 (some (intsC n))) 1 (some (intsC fr))) (fun x=>PathTo fr a x.1 x.2.2∧(∀ w∈x.2.2,w∈P)∧leastP fr n x.2.1 x.2.2=c) (b,m0,P) (show PathTo fr a b P∧(∀ w∈P,w∈P)∧leastP fr n m0 P=c from ⟨hP,fun w hw=>hw,hce⟩) ?_
    rintro ⟨v,m,ps⟩ hIE ihE
    try (dsimp only at hIE)
    try dsimp only
    obtain ⟨hv,hsub,hm⟩:=hIE
    cases ps with
    | cons w ps =>
     cases hv with
     | @cons _ u _ hva hu hv =>
      have hfu:frN fr v=u:=by unfold frN;rw [hu];simp
      obtain ⟨hv8,hu8,huv⟩:=hpp3 v (hsub v (by simp))
      rw [hfu] at hu8 huv
      have g2:((v:Int) != (a:Int))=true:=by simp;omega
      have hgu:(intsC fr)[0 + v * 1]?=some (.base (.int .i64 (u:Int))):=by rw [← hu];exact ni_at (by omega)
      refine Wq<|Wq<|qW 164 167 rfl<|qM rfl<|qM rfl<|qN rfl<|Nl<|Wt rfl ‹_›<|Wu<|Wq<|Wb<|Wd 171 183 (by decide) rfl mixed rfl<|qM rfl<|qM rfl<|qM rfl<|Od rfl rfl (Ir rfl rfl rfl rfl ty123 ty3 (by omega))<|Od rfl rfl (Ld rfl rfl rfl hgu ty3 rfl)<|qM rfl<|Od rfl rfl (Nc rfl rfl)<|Od rfl rfl (Ir rfl rfl rfl rfl ty125 ty123 (by omega))<|Od rfl rfl (Ir rfl rfl rfl rfl ty123 ty3 (by omega))<|Od rfl rfl (Ld rfl rfl rfl (cc_at hlen hu8 hv8) ty3 rfl)<|Od rfl rfl (LO.min rfl rfl rfl)<|qA rfl<|Nl ⟨by kernel_rfl,(qW 187 191 rfl<|qM rfl<|Od rfl rfl (Ir rfl rfl rfl rfl ty123 ty3 (by omega))<|Od rfl rfl (Ld rfl rfl rfl hgu ty3 rfl)<|qA rfl<|Nl ?_)⟩
      refine WL.rename [(0,0),(1,1)] 2 (by decide) ?_ ?_ (ihE (u,((if cN n (u * 8 + v) < m then cN n (u * 8 + v) else m)),ps) (show ps.length < (v::ps).length from by simp) (show PathTo fr a u ps∧(∀ w∈ps,w∈P)∧leastP fr n ((if cN n (u * 8 + v) < m then cN n (u * 8 + v) else m)) ps=c from ⟨hv,fun w hw=>hsub w (by simp [hw]),by rw [← hm,← hfu];rfl⟩))
      ·exact aU (lR rfl) (aU (lR rfl) (aU (lI rfl) (aU (lR rfl) (aU (lR rfl) (aU (lI rfl) aM)))))
      ·exact aU (kP rfl (intsC_pure _)) (aU (kP rfl (intsC_pure _)) aM)
    | nil =>
     cases hv
     have g2:((a:Int) != (a:Int))=false:=by simp
     obtain rfl:m=c:=hm
     clear ihE
     refine Wq<|Wq<|qW 164 167 rfl<|qM rfl<|qM rfl<|qN rfl<|Nl<|Wo rfl ‹_›<|Wx<|Wq<|Wq<|qW 195 197 rfl<|qM rfl<|qA rfl<|Nl<|Wb<|W.rename [(0,0),(1,1)] 2 (T':=up (up (up (up (up mt 0 (some (.own 0 0))) 1 (some (.base (.int .i64 (a:Int))))) 7 (some (.own 1 0))) 12 (some (.base (.int .i64 m)))) 14 (some (.base (.int .i64 (b:Int))))) (H':=up (up mt 0 (some (intsC n))) 1 (some (intsC fr))) (by decide) ?_ ?_ ?_
     ·exact aU (lR rfl) (aU (lR rfl) (aU (lI rfl) (aU (lR rfl) (aU (lI rfl) aM))))
     ·exact aU (kP rfl (intsC_pure _)) (aU (kP rfl (intsC_pure _)) aM)
     refine W.loop_ind (α:=Nat × List Int × List Nat) (fun x=>x.2.2.length) 2 (fun x=>up (up (up (up (up mt 0 (some (.own 0 0))) 1 (some (.base (.int .i64 (a:Int))))) 7 (some (.own 1 0))) 12 (some (.base (.int .i64 m)))) 14 (some (.base (.int .i64 (x.1:Int))))) (fun x=>up (up mt 0 (some (intsC x.2.1))) 1 (some (intsC fr))) (fun x=>(PathTo fr a x.1 x.2.2∧Left B x.2.1)∧sendP fr m x.2.1 x.2.2=sendP fr m n P∧(∀ w∈x.2.2,w < 8∧frN fr w < 8∧frN fr w≠w)∧x.2.2.Nodup∧∀ w∈x.2.2,m≤cN x.2.1 (frN fr w * 8 + w)) (b,n,P) (show (PathTo fr a b P∧Left B n)∧sendP fr m n P=sendP fr m n P∧(∀ w∈P,w < 8∧frN fr w < 8∧frN fr w≠w)∧P.Nodup∧∀ w∈P,m≤cN n (frN fr w * 8 + w) from ⟨⟨hP,hn⟩,rfl,hpp3,hnd,hcle⟩) ?_
     rintro ⟨v,nn,ps⟩ hIG ihG
     try (dsimp only at hIG)
     try dsimp only
     obtain ⟨⟨hv,hL⟩,hsend,hps,hndp,hmle⟩:=hIG
     have hnl:=hL.len
     cases ps with
     | nil =>
      cases hv
      refine Wq<|Wq<|qW 201 204 rfl<|qM rfl<|qM rfl<|qN rfl<|Nl<|Wo rfl ‹_›<|Wx<|Wq<|qW 254 256 rfl<|qM rfl<|qA rfl<|Nl<|Wz ⟨.inl rfl,_,up mt 0 (some (intsC nn)),Rc (Rt0 rfl) Rv,aU rfl aM,?_⟩
      exact ⟨m,nn,.inr ⟨hc0,fr,P,hP,hnd,hpp3,hcle,hsend⟩,rfl,rfl⟩
     | cons w ps =>
      have hone:=left_one hL hps hndp (by omega) hmle
      cases hv with
      | @cons _ u _ hva hu hv =>
       have hfu:frN fr v=u:=by unfold frN;rw [hu];simp
       obtain ⟨hv8,hu8,huv⟩:=hps v (by simp)
       have hmv:=hmle v (by simp)
       rw [hfu] at hu8 huv hmv
       have h1:=hL.ge u v hu8 hv8
       have h2:=hL.cell hu8 hv8 huv
       have h3:=hL.ge v u hv8 hu8
       have h4:=hL.bd u v hu8 hv8 huv
       have g3:((v:Int) != (a:Int))=true:=by simp;omega
       have hgu:(intsC fr)[0 + v * 1]?=some (.base (.int .i64 (u:Int))):=by rw [← hu];exact ni_at (by omega)
       refine Wq<|Wq<|qW 201 204 rfl<|qM rfl<|qM rfl<|qN rfl<|Nl<|Wt rfl ‹_›<|Wu<|Wq<|Wb<|Wq<|Wd 208 223 (by decide) rfl mixed rfl<|qM rfl<|qM rfl<|Od rfl rfl (Ir rfl rfl rfl rfl ty123 ty3 (by omega))<|Od rfl rfl (Ld rfl rfl rfl hgu ty3 rfl)<|qM rfl<|Od rfl rfl (Nc rfl rfl)<|Od rfl rfl (Ir rfl rfl rfl rfl ty125 ty123 (by omega))<|Od rfl rfl (Ir rfl rfl rfl rfl ty123 ty3 (by omega))<|Od rfl rfl (Ld rfl rfl rfl (cc_at hnl hu8 hv8) ty3 rfl)<|qM rfl<|Od rfl rfl (LO.sub_in rfl rfl rfl (iW _ (by omega)))<|Od rfl rfl (Nc rfl rfl)<|Od rfl rfl (Ir rfl rfl rfl rfl ty125 ty123 (by omega))<|Od rfl rfl (Ir rfl rfl rfl rfl ty123 ty3 (by omega))<|qS rfl ty3 (cs_at hnl hu8 hv8) rfl<|Nl ⟨by kernel_rfl,?_⟩
       obtain ⟨n2,hn2⟩:∃ n2,nn.set (u * 8 + v) (cN nn (u * 8 + v) - m)=n2:=⟨_,rfl⟩
       rw [hn2]
       have hn2a:n2=addAt nn (u * 8 + v) (-m):=by rw [← hn2,Int.sub_eq_add_neg];rfl
       have hn2l:n2.length=64:=by rw [hn2a,addAt_len];exact hnl
       have h5:cN n2 (v * 8 + u)=cN nn (v * 8 + u):=by rw [hn2a,cN_add (by omega),if_neg (by omega),Int.add_zero]
       refine Wd 227 242 (by decide) rfl mixed rfl<|qM rfl<|qM rfl<|qM rfl<|Od rfl rfl (Ir rfl rfl rfl rfl ty123 ty3 (by omega))<|Od rfl rfl (Ld rfl rfl rfl hgu ty3 rfl)<|Od rfl rfl (Nc rfl rfl)<|Od rfl rfl (Ir rfl rfl rfl rfl ty125 ty123 (by omega))<|Od rfl rfl (Ir rfl rfl rfl rfl ty123 ty3 (by omega))<|Od rfl rfl (Ld rfl rfl rfl (cc_at hn2l hv8 hu8) ty3 rfl)<|qM rfl<|qZ rfl (iW _ (by omega))<|Od rfl rfl (Nc rfl rfl)<|Od rfl rfl (Ir rfl rfl rfl rfl ty125 ty123 (by omega))<|Od rfl rfl (Ir rfl rfl rfl rfl ty123 ty3 (by omega))<|qS rfl ty3 (cs_at hn2l hv8 hu8) rfl<|Nl ⟨by kernel_rfl,(qW 246 250 rfl<|qM rfl<|Od rfl rfl (Ir rfl rfl rfl rfl ty123 ty3 (by omega))<|Od rfl rfl (Ld rfl rfl rfl hgu ty3 rfl)<|qA rfl<|Nl ?_)⟩
       rw [show n2.set (v * 8 + u) (cN n2 (v * 8 + u) + m)=sendV fr m nn v from by unfold sendV;rw [hfu,← hn2a];rfl]
       refine WL.rename [(0,0),(1,1)] 2 (by decide) ?_ ?_ (ihG (u,(sendV fr m nn v),ps) (show ps.length < (v::ps).length from by simp) (show (PathTo fr a u ps∧Left B (sendV fr m nn v))∧sendP fr m (sendV fr m nn v) ps=sendP fr m n P∧(∀ w∈ps,w < 8∧frN fr w < 8∧frN fr w≠w)∧ps.Nodup∧∀ w∈ps,m≤cN (sendV fr m nn v) (frN fr w * 8 + w) from ⟨⟨hv,hone.1⟩,hsend,fun w hw=>hps w (by simp [hw]),(List.nodup_cons.1 hndp).2,hone.2⟩))
       ·exact aU (lR rfl) (aU (lR rfl) (aU (lI rfl) (aU (lR rfl) (aU (lI rfl) aM))))
       ·exact aU (kP rfl (intsC_pure _)) (aU (kP rfl (intsC_pure _)) aM)
  | cons v q =>
   obtain ⟨dn,hA⟩:=hIB
   rw [List.length_cons] at hbd
   have hv8:v < 8:=hA.lt v (by simp)
   have g3:decide (((v::q).length:Int) > 0)=true:=decide_eq_true (by simp<;>omega)
   refine Wq<|Wq<|qW 55 58 rfl<|qM rfl<|Od rfl rfl (LO.len rfl rfl ty22)<|qGt rfl<|Nl<|Wt rfl ‹_›<|Wu<|Wq<|Wb<|Wq<|Wd 62 70 (by decide) rfl mixed rfl<|qM rfl<|qM rfl<|Od rfl rfl (Ia rfl rfl rfl rfl ty22 ty3 (by simp;done))<|Od rfl rfl (Ld rfl rfl rfl nq_head ty3 rfl)<|Od rfl rfl (Nc rfl rfl)<|Od rfl rfl (Ir rfl rfl rfl rfl ty125 ty123 (by omega))<|qG rfl ty123 rfl (row_tk hlen hv8)<|qM rfl<|Nl ⟨by kernel_rfl,(Wb<|W.rename [(0,0),(1,1),(2,2)] 3 (T':=up (up (up (up (up (up (up mt 0 (some (.own 0 0))) 1 (some (.base (.int .i64 (a:Int))))) 2 (some (.base (.int .i64 (b:Int))))) 7 (some (.own 1 0))) 9 (some (.osl 2 p.length (v::q).length 1))) 37 (some (.agg (intsC (rowN n v))))) 38 (some (.base (.int .i64 (0:Int))))) (H':=up (up (up mt 0 (some (intsC n))) 1 (some (intsC fr))) 2 (some (intsC (natsL (p++v::q))))) (by decide) ?_ ?_ ?_)⟩
   ·exact aU (lR rfl) (aU (lR rfl) (aU (lI rfl) (aU (lI rfl) (aU (lR rfl) (aU (lR rfl) (aU (lI rfl) aM))))))
   ·exact aU (kP rfl (intsC_pure _)) (aU (kP rfl (intsC_pure _)) (aU (kP rfl (intsC_pure _)) aM))
   refine W.loop_ind (α:=Nat × List Int × List Nat × List Nat) (fun x=>8 - x.1) 3 (fun x=>up (up (up (up (up (up (up mt 0 (some (.own 0 0))) 1 (some (.base (.int .i64 (a:Int))))) 2 (some (.base (.int .i64 (b:Int))))) 7 (some (.own 1 0))) 9 (some (.osl 2 x.2.2.1.length (v::x.2.2.2).length 1))) 37 (some (.agg (intsC (rowN n v))))) 38 (some (.base (.int .i64 (x.1:Int))))) (fun x=>up (up (up mt 0 (some (intsC n))) 1 (some (intsC x.2.1))) 2 (some (intsC (natsL (x.2.2.1++v::x.2.2.2))))) (fun x=>(Aq n a x.2.1 dn v x.1 x.2.2.2∧x.2.2.2.length + cntN x.2.1=q.length + cntN fr)∧x.1≤8) (0,fr,p,q) (show (Aq n a fr dn v 0 q∧q.length + cntN fr=q.length + cntN fr)∧0≤8 from ⟨⟨hA,rfl⟩,Nat.zero_le _⟩) ?_
   rintro ⟨i,f1,p1,q1⟩ hIC ihC
   try (dsimp only at hIC)
   try dsimp only
   obtain ⟨⟨hA1,hcnt⟩,hi⟩:=hIC
   have hfl:=hA1.len
   by_cases hc:i < 8
   ·have g4:decide ((i:Int) < 8)=true:=decide_eq_true (by omega)
    obtain ⟨hN,hN2⟩:=hA1.try_ hc
    refine Wq<|qW 74 75 rfl<|qK rfl<|Nl<|Wq<|Wt rfl ‹_›<|Wu<|Wq<|Wb<|Wq<|qW 79 83 rfl<|qM rfl<|Od rfl rfl (Lix rfl rfl rfl rfl ty123 ty3 rfl (by omega) (row_at hc))<|qA rfl<|qA rfl<|Nl ?_
    by_cases e1:0 < cN n (v * 8 + i)
    ·have g5:decide (cN n (v * 8 + i) > 0)=true:=decide_eq_true e1
     by_cases e2:gI f1 i < 0
     ·have g6:decide (gI f1 (i:Int) < 0)=true:=decide_eq_true e2
      rw [show tryA n v (f1,q1) i=(sI f1 i v,q1++[i]) from if_pos ⟨e1,e2⟩] at hN hN2
      dsimp only at hN hN2
      refine Wq<|qW 87 95 rfl<|qM rfl<|qGt rfl<|qM rfl<|gM rfl ‹_›<|qU rfl ‹_› rfl (Ir rfl rfl rfl rfl ty123 ty3 (by omega))<|qU rfl ‹_› rfl (Ld rfl rfl rfl (ni_at (k:=i) (by omega)) ty3 rfl)<|gK rfl ‹_›<|qT rfl ‹_› rfl<|Nl<|Wt rfl ‹_›<|Wq<|qW 99 105 rfl<|qM rfl<|qM rfl<|Od rfl rfl (Ia rfl rfl rfl rfl ty22 ty3 (by simp;done))<|Od rfl rfl (Ld rfl rfl rfl nq_head ty3 rfl)<|Od rfl rfl (Ir rfl rfl rfl rfl ty123 ty3 (by omega))<|qS rfl ty3 (ns_at (by omega)) rfl<|Nl ?_
      have hlq:(v::q1).length≤20:=by rw [List.length_cons];omega
      refine qW 109 114 rfl<|qM rfl<|qM rfl<|Od rfl rfl (LO.buildSlice rfl ty22 ty3 (by decide) (by decide) (.cons rfl rfl rfl rfl (Sl rfl) .nil))<|Od rfl rfl (Lap rfl rfl (Sso rfl rfl (Tl rfl)) rfl nq_tk ty22 ty22 ty3 (by decide) (by omega) (by omega) (by decide))<|qA rfl<|Nl<|qW 118 120 rfl<|qZ rfl (iW _ (by omega))<|qM rfl<|Nl ?_
      rw [show intsC (natsL (v::q1))++[AV.base (.int .i64 (i:Int))]=intsC (natsL ([]++v::(q1++[i]))) from by simp [intsC,natsL],show (v::q1).length + 1=(v::(q1++[i])).length from by simp,← sI_nat]
      refine WL.rename [(0,0),(1,1),(2,112)] 3 (by decide) ?_ ?_ (ihC ((i + 1),(sI f1 i (v:Int)),(([]:List Nat)),(q1++[i])) (show 8 - (i + 1) < 8 - i from by omega) (show (Aq n a (sI f1 i (v:Int)) dn v (i + 1) (q1++[i])∧(q1++[i]).length + cntN (sI f1 i (v:Int))=q.length + cntN fr)∧(i + 1)≤8 from ⟨⟨hN,hN2.trans hcnt⟩,by omega⟩))
      ·exact aU (lR rfl) (aU (lR rfl) (aU (lI rfl) (aU (lI rfl) (aU (lR rfl) (aU (lR rfl) (aU (lI rfl) aM))))))
      ·exact aU (kP rfl (intsC_pure _)) (aU (kP rfl (intsC_pure _)) (aU (kP rfl (intsC_pure _)) aM))
     ·have g6:decide (gI f1 (i:Int) < 0)=false:=decide_eq_false e2
      rw [show tryA n v (f1,q1) i=(f1,q1) from if_neg fun h=>e2 h.2] at hN hN2
      refine Wq<|qW 87 95 rfl<|qM rfl<|qGt rfl<|qM rfl<|gM rfl ‹_›<|qU rfl ‹_› rfl (Ir rfl rfl rfl rfl ty123 ty3 (by omega))<|qU rfl ‹_› rfl (Ld rfl rfl rfl (ni_at (k:=i) (by omega)) ty3 rfl)<|gK rfl ‹_›<|qT rfl ‹_› rfl<|Nl<|Wo rfl ‹_›<|Wu<|qW 118 120 rfl<|qZ rfl (iW _ (by omega))<|qM rfl<|Nl<|WL.rename [(0,0),(1,1),(2,2)] 3 (by decide) ?_ ?_ (ihC ((i + 1),f1,p1,q1) (show 8 - (i + 1) < 8 - i from by omega) (show (Aq n a f1 dn v (i + 1) q1∧q1.length + cntN f1=q.length + cntN fr)∧(i + 1)≤8 from ⟨⟨hN,hN2.trans hcnt⟩,by omega⟩))
      ·exact aU (lR rfl) (aU (lR rfl) (aU (lI rfl) (aU (lI rfl) (aU (lR rfl) (aU (lR rfl) (aU (lI rfl) aM))))))
      ·exact aU (kP rfl (intsC_pure _)) (aU (kP rfl (intsC_pure _)) (aU (kP rfl (intsC_pure _)) aM))
    ·have g5:decide (cN n (v * 8 + i) > 0)=false:=decide_eq_false e1
     rw [show tryA n v (f1,q1) i=(f1,q1) from if_neg fun h=>e1 h.1] at hN hN2
     refine Wq<|qW 87 95 rfl<|qM rfl<|qGt rfl<|qM rfl<|qD rfl ‹_› rfl<|qD rfl ‹_› rfl<|qD rfl ‹_› rfl<|qD rfl ‹_› rfl<|qP rfl ‹_› rfl<|Nl<|Wo rfl rfl<|Wu<|qW 118 120 rfl<|qZ rfl (iW _ (by omega))<|qM rfl<|Nl<|WL.rename [(0,0),(1,1),(2,2)] 3 (by decide) ?_ ?_ (ihC ((i + 1),f1,p1,q1) (show 8 - (i + 1) < 8 - i from by omega) (show (Aq n a f1 dn v (i + 1) q1∧q1.length + cntN f1=q.length + cntN fr)∧(i + 1)≤8 from ⟨⟨hN,hN2.trans hcnt⟩,by omega⟩))
     ·exact aU (lR rfl) (aU (lR rfl) (aU (lI rfl) (aU (lI rfl) (aU (lR rfl) (aU (lR rfl) (aU (lI rfl) aM))))))
     ·exact aU (kP rfl (intsC_pure _)) (aU (kP rfl (intsC_pure _)) (aU (kP rfl (intsC_pure _)) aM))
   ·have g4:decide ((i:Int) < 8)=false:=decide_eq_false (by omega)
    refine Wq<|qW 74 75 rfl<|qK rfl<|Nl<|Wq<|Wo rfl ‹_›<|Wx ?_
    obtain rfl:i=8:=by omega
    refine qW 124 127 rfl<|qM rfl<|Od rfl rfl (LO.slice rfl rfl (Ba rfl rfl) Bnd.no (by simp;done) (by omega) ty22 ty3)<|qA rfl<|Nl ?_
    rw [show p1.length + 1 * 1=(p1++[v]).length from by simp,show p1++v::q1=(p1++[v])++q1 from by simp]
    refine WL.rename [(0,0),(1,1),(2,2)] 3 (by decide) ?_ ?_ (ihB (f1,(p1++[v]),q1) (show q1.length + cntN f1 < (v::q).length + cntN fr from by rw [hcnt,List.length_cons];omega) (show AS n a f1 q1∧q1.length + cntN f1≤9 from ⟨hA1.as,by omega⟩))
    ·exact aU (lI rfl) (aU (lI rfl) (aU (lR rfl) (aU (lR rfl) (aU (lI rfl) aM))))
    ·exact aU (kP rfl (intsC_pure _)) (aU (kP rfl (intsC_pure _)) (aU (kP rfl (intsC_pure _)) aM))
def wkF (f:Fab):Nat→Bool:=fun i=>worksB f i
def dist (f:Fab) (to:Int):List Int:=distW f (wkF f) to
theorem dist_len (f:Fab) (to:Int):(dist f to).length=f.dead.length:=distW_len _ _
theorem wkF_minus (f:Fab):(fun i:Nat=>worksB f i && !((i:Int) == -1))=wkF f:=by
 funext i
 have:((i:Int) == -1)=false:=by simp
 simp [wkF,this]
theorem wkF_wf (f:Fab):Wf f (wkF f) f.dead.length:=wfWorks f _ fun _ h=>h
theorem distances_own (f:Fab) (hf:FabS f) (to:Int):AFn Tryz.prog 20 0 [.agg (fabC f),.base (.int .i64 to)] mt (.osl 0 0 f.dead.length 1) (up mt 0 (some (intsC (dist f to)))):=by
 refine AFn.eq Tryz.func20 rfl rfl (Nat.le_of_ble_eq_true rfl) ?_
 have hr:=reach_own f hf to (-1)
 rw [wkF_minus] at hr
 refine Wq<|qW 0 2 rfl<|qC rfl<|qA rfl<|Nl<|Wq<|qW 6 10 rfl<|qG rfl ty41 rfl (Tl rfl)<|qM rfl<|Od rfl rfl (LO.callO (fr:=[]) rfl rfl (hr) fok32 (.cons rfl (.pure rfl) (.cons rfl (.pure rfl) (.cons rfl (.pure rfl) .nil))) (intsC_pure _) (by decide))<|qA rfl<|Nl<|W.rename [(0,8)] 1 (T':=up mt 4 (some (.osl 0 0 (f.dead.length) 1))) (H':=up mt 0 (some (intsC (dist f to)))) (by decide) ?_ ?_ ?_
 ·exact aU (lI rfl) aM
 ·exact aU (kP rfl (intsC_pure _)) aM
 refine Wz ⟨.inl rfl,_,up mt 0 (some (intsC (dist f to))),Rc (Rt0 rfl) Rv,aU rfl aM,?_⟩
 exact ⟨rfl,rfl⟩
theorem tab_at {g:Nat→Int} {n k:Nat} (h:k < n):gI ((List.range n).map g) k=g k:=by
 rw [gI_at (by simpa using h)];simp
theorem ni_at1 {l:List Int} {k:Nat} (h:k < l.length):(intsC l)[k * 1]?=some (.base (.int .i64 (gI l k))):=by
 rw [← Nat.zero_add (k * 1)];exact ni_at h
theorem distances_isl (f:Fab) (hf:FabS f) (to:Int):AFn Tryz.prog 20 0 [.agg (fabC f),.base (.int .i64 to)] mt (.isl (intsC (dist f to)) f.dead.length) mt :=
 AFn.frozen (distances_own f hf to) (ints_tk (dist_len _ _)) (intsC_pure _)
end Go.Proofs.YtdflnmfjpoodlaaGreatDoor
