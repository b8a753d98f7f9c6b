/-
  Routes and policies from a list of numbers.
-/
import Derived.Test.YthbegdeojkdlbaaCc
import Derived.Test.YthbegdeojkdlbaaMab
namespace Go.Proofs.Ythbegdeojkdlbaa
open Go.RowKit
structure Rt where
 pf:Pf
 from_:Int
 a:At
def rtC (r:Rt):List AV:=pfC r.pf++[.base (.int .i64 r.from_)]++atC r.a
theorem rt_lit (p:Pf) (f:Int) (a:At):rtC ⟨p,f,a⟩=[.base (.bool p.v6),.base (.int .u64 p.hi),.base (.int .u64 p.lo),.base (.int .i64 p.len),.base (.int .i64 f),.base (.int .i64 a.org),.isl (segsC a.path) a.path.length,.base (.bool a.nx.v6),.base (.int .u64 a.nx.hi),.base (.int .u64 a.nx.lo),.base (.int .i64 a.med),.base (.int .i64 a.pref),.base (.int .i64 a.otc),.isl a.cc a.cn,.isl a.lc a.ln,.isl a.oc a.on]:=rfl
def rtsC (l:List Rt):List AV:=l.flatMap rtC
theorem rtsC_len (p:List Rt):(rtsC p).length=p.length * 16:=by
 unfold rtsC
 induction p with
 | nil=>rfl
 | cons a p ih=>rw [List.flatMap_cons,List.length_append,ih,List.length_cons];show 16 + p.length * 16=_;omega
theorem rtsC_app (a b:List Rt):rtsC (a++b)=rtsC a++rtsC b:=by simp [rtsC]
theorem rtsC_one (r:Rt):rtsC [r]=rtC r:=by simp [rtsC]
theorem rtC_pure (r:Rt):(rtC r).all AV.pure1=true:=rfl
theorem rtsC_pure (l:List Rt):(rtsC l).all AV.pure1=true:=by
 unfold rtsC
 induction l with
 | nil=>rfl
 | cons a p ih=>rw [List.flatMap_cons,List.all_append,ih];rfl
theorem rts_tk {l:List Rt} {n:Nat} (h:l.length=n):Tk (rtsC l) 0 (n * 16) (rtsC l):=by
 have:=Tk.all (rtsC l)
 rwa [show (rtsC l).length=n * 16 from by rw [rtsC_len,h]] at this
theorem rts_at {l:List Rt} {i:Nat} (h:i < l.length):Tk (rtsC l) (0 + i * 16) 16 (rtC l[i]):=by
 induction l generalizing i with
 | nil=>exact absurd h (by simp)
 | cons a p ih =>
  refine ⟨rfl,fun j c hj=>?_⟩
  have hj16:j < 16:=by have:=(List.getElem?_eq_some_iff.1 hj).1;exact this
  have hl:(rtC a).length=16:=rfl
  show (rtsC (a::p))[0 + i * 16 + j]?=some c
  rw [show rtsC (a::p)=rtC a++rtsC p from rfl]
  cases i with
  | zero =>
   rw [List.getElem?_append_left (by omega),show 0 + 0 * 16 + j=j from by omega]
   exact hj
  | succ i =>
   rw [List.getElem?_append_right (by omega),hl,show 0 + (i + 1) * 16 + j - 16=0 + i * 16 + j from by omega]
   exact (ih (i:=i) (by simpa using h)).2 j c hj
set_option maxHeartbeats 1000000 in
theorem route_any (l:List Int) (at_:Nat) (asn:Int) (hl:l.length≤9223372036854775807) :
 ∃ v H',AFn Try.prog 14 1 [.own 0 0,.base (.int .i64 asn)] (up mt 0 (some (deckC l at_))) v H'∧∃ (r:Rt) (at':Nat),(r.from_=asn∧GoodAt r.a)∧v=.agg (rtC r)∧H'=up mt 0 (some (deckC l at')):=by
 refine AFn.ex Try.func14 rfl rfl (Nat.le_of_ble_eq_true rfl) ?_
 obtain ⟨_,_,hpx,p,a1,rfl,rfl⟩:=prefix_any l at_ hl
 obtain ⟨pv,ph,pl,pn⟩:=p
 obtain ⟨_,_,hat,a,a2,hga,rfl,rfl⟩:=attrs_any l a1 asn pv hl
 unfold pfC at hpx
 unfold atC at hat
 refine Wq<|qW 1 2 rfl<|qB rfl ty54<|Nl<|Wq<|qW 6 10 rfl<|qM rfl<|Od rfl rfl (C1 (fr:=[]) rfl rfl (hpx) fok20 (.own rfl rfl .nil) rfl rfl rfl (Cn _ _) (by decide) rfl)<|qB rfl ty46<|qS rfl ty46 (Sl rfl) rfl<|Nl<|Wq<|Wd 14 24 (by decide) rfl mixed rfl<|qG rfl ty46 rfl (Tl rfl)<|qM rfl<|qM rfl<|qM rfl<|qF rfl ty46 rfl<|qF rfl ty44 rfl<|qL rfl ty4 rfl<|Od rfl rfl (C1 (fr:=[]) rfl rfl (hat) fok21 (.own rfl rfl (.cons rfl (.pure rfl) (.cons rfl (.pure rfl) .nil))) rfl rfl rfl (Cn _ _) (by decide) rfl)<|Od rfl rfl (Bs rfl ty54 (.cons rfl rfl rfl rfl (Sl rfl) (.cons rfl rfl rfl rfl (Sl rfl) (.cons rfl rfl rfl rfl (Sl rfl) .nil))))<|qS rfl ty54 (Sl rfl) rfl<|Nl ⟨by kernel_rfl,(Wz ⟨.inl rfl,_,(up mt 0 (some (deckC l a2))),(Rc (Ra0 rfl rfl ty54 rfl (Tl rfl)) Rv),(aU rfl aM),?_⟩)⟩
 exact ⟨⟨⟨pv,ph,pl,pn⟩,asn,a⟩,a2,⟨rfl,hga⟩,rfl,rfl⟩
def prC (x:Int × Int):List AV:=[.base (.int .i64 x.1),.base (.int .i64 x.2)]
def prsC (l:List (Int × Int)):List AV:=l.flatMap prC
theorem prsC_len (p:List (Int × Int)):(prsC p).length=p.length * 2:=by
 unfold prsC
 induction p with
 | nil=>rfl
 | cons a p ih=>rw [List.flatMap_cons,List.length_append,ih,List.length_cons];show 2 + p.length * 2=_;omega
theorem prsC_app (a b:List (Int × Int)):prsC (a++b)=prsC a++prsC b:=by simp [prsC]
theorem prsC_pure (l:List (Int × Int)):(prsC l).all AV.pure1=true:=by
 unfold prsC
 induction l with
 | nil=>rfl
 | cons a p ih=>rw [List.flatMap_cons,List.all_append,ih];rfl
theorem prs_tk {l:List (Int × Int)} {n:Nat} (h:l.length=n):Tk (prsC l) 0 (n * 2) (prsC l):=by
 have:=Tk.all (prsC l)
 rwa [show (prsC l).length=n * 2 from by rw [prsC_len,h]] at this
theorem prs_at {l:List (Int × Int)} {i:Nat} (h:i < l.length):Tk (prsC l) (0 + i * 2) 2 (prC l[i]):=by
 induction l generalizing i with
 | nil=>exact absurd h (by simp)
 | cons a p ih =>
  refine ⟨rfl,fun j c hj=>?_⟩
  have hj16:j < 2:=by have:=(List.getElem?_eq_some_iff.1 hj).1;exact this
  have hl:(prC a).length=2:=rfl
  show (prsC (a::p))[0 + i * 2 + j]?=some c
  rw [show prsC (a::p)=prC a++prsC p from rfl]
  cases i with
  | zero =>
   rw [List.getElem?_append_left (by omega),show 0 + 0 * 2 + j=j from by omega]
   exact hj
  | succ i =>
   rw [List.getElem?_append_right (by omega),hl,show 0 + (i + 1) * 2 + j - 2=0 + i * 2 + j from by omega]
   exact (ih (i:=i) (by simpa using h)).2 j c hj
structure Po where
 asn:Int
 n4:Bool
 n6:Bool
 hol:Bool
 hops:Int
 dc:List AV
 dn:Nat
 pr:List (Int × Int)
def poC (p:Po):List AV:=[.base (.int .i64 p.asn),.base (.bool p.n4),.base (.bool p.n6),.base (.bool p.hol),.base (.int .i64 p.hops),.isl p.dc p.dn,.isl (prsC p.pr) p.pr.length]
def GoodPo (p:Po):Prop:=p.pr.length≤10∧∀ x∈p.pr,-10≤x.2∧x.2≤10
set_option maxHeartbeats 1000000 in
theorem policy_any (l:List Int) (at_:Nat) (asn:Int) (hl:l.length≤9223372036854775807) :
 ∃ v H',AFn Try.prog 5 1 [.own 0 0,.base (.int .i64 asn)] (up mt 0 (some (deckC l at_))) v H'∧∃ (p:Po) (at':Nat),GoodPo p∧v=.agg (poC p)∧H'=up mt 0 (some (deckC l at')):=by
 refine AFn.ex Try.func5 rfl rfl (Nat.le_of_ble_eq_true rfl) ?_
 obtain ⟨a1,ha1⟩:∃ a1,nextAt l at_=a1:=⟨_,rfl⟩
 have n1:=next_any l at_ 2 (by decide) (by decide) hl
 obtain ⟨e1,he1⟩:∃ e1,nextV l at_ 2=e1:=⟨_,rfl⟩
 rw [he1,ha1] at n1
 obtain ⟨a2,ha2⟩:∃ a2,nextAt l a1=a2:=⟨_,rfl⟩
 have n2:=next_any l a1 8 (by decide) (by decide) hl
 obtain ⟨e2,he2⟩:∃ e2,nextV l a1 8=e2:=⟨_,rfl⟩
 rw [he2,ha2] at n2
 obtain ⟨a3,ha3⟩:∃ a3,nextAt l a2=a3:=⟨_,rfl⟩
 have n3:=next_any l a2 4 (by decide) (by decide) hl
 have b3:=nextV_bd l a2 4 (by decide)
 obtain ⟨e3,he3⟩:∃ e3,nextV l a2 4=e3:=⟨_,rfl⟩
 rw [he3] at b3
 rw [he3,ha3] at n3
 obtain ⟨B,hB⟩:∃ B,(e1 == 0)=B:=⟨_,rfl⟩
 refine Wq<|qW 1 2 rfl<|qB rfl ty27<|Nl<|Wq<|qW 6 13 rfl<|qM rfl<|qM rfl<|Od rfl rfl (C1 (fr:=[]) rfl rfl (n1) fok13 (.own rfl rfl (.cons rfl (.pure rfl) .nil)) rfl rfl rfl (Cn _ _) (by decide) rfl)<|qE rfl<|Od rfl rfl (Bs rfl ty27 (.cons rfl rfl rfl rfl (Sl rfl) (.cons rfl rfl rfl rfl (Sl rfl) .nil)))<|qB rfl ty27<|qS rfl ty27 (Sl rfl) rfl<|Nl ?_
 rw [hB]
 refine Wq<|Wq<|qW 17 19 rfl<|qM rfl<|Od rfl rfl (C1 (fr:=[]) rfl rfl (n2) fok13 (.own rfl rfl (.cons rfl (.pure rfl) .nil)) rfl rfl rfl (Cn _ _) (by decide) rfl)<|Nl<|W.joinK (α:=Bool × Bool × Int × List AV × Nat × Nat) 3 (fun x=>[(0,.own 0 0),(4,.own 1 0),(5,.own 2 0)]) (fun x=>up (up (up mt 0 (some (deckC l x.2.2.2.2.2))) 1 (some ([.base (.int .i64 0),.base (.bool false),.base (.bool false),.base (.bool false),.base (.int .i64 0),.nils,.nils]))) 2 (some ([.base (.int .i64 asn),.base (.bool x.1),.base (.bool x.2.1),.base (.bool B),.base (.int .i64 x.2.2.1),.isl x.2.2.2.1 x.2.2.2.2.1,.nils]))) (fun x=>True) .nil ?_ ?_
 rotate_left
 rintro ⟨n4,n6,hp,dc,dn,a⟩ hIJ
 try (dsimp only at hIJ)
 try dsimp only [joinT,baseT,List.cons_append,List.nil_append]
 rotate_right
 ·
  refine Wb ?_
  rcases (show (e2 == 0)=true∨((e2 == 0)=false∧(e2 == 1)=true)∨((e2 == 0)=false∧(e2 == 1)=false∧(e2 == 2)=true)∨((e2 == 0)=false∧(e2 == 1)=false∧(e2 == 2)=false∧(e2 == 3)=true)∨((e2 == 0)=false∧(e2 == 1)=false∧(e2 == 2)=false∧(e2 == 3)=false) by cases (e2 == 0)<;>cases (e2 == 1)<;>cases (e2 == 2)<;>cases (e2 == 3)<;>simp) with g0|⟨g0,g1⟩|⟨g0,g1,g2⟩|⟨g0,g1,g2,g3⟩|⟨g0,g1,g2,g3⟩
  ·
   refine Wq<|qW 23 25 rfl<|qE rfl<|qA rfl<|Nl<|Wt rfl ‹_›<|qW 29 31 rfl<|qF rfl ty27 rfl<|qS rfl ty4 (Sl rfl) rfl<|Nl ?_
   intro yJ KJ hJ
   refine W.nilc (q:=11) (j:=5) rfl rfl (Sl rfl)<|W.renameJ [(0,0),(1,1),(2,11)] 3 (by decide) ?_ ?_ (hJ (true,false,0,(([]:List AV)),0,a2) (show True from trivial))
   ·exact lC (lI rfl) (lC (lI rfl) (lC (lI rfl) lN))
   ·exact aU (kR rfl) (aU (kR rfl) (aU (kR rfl) aM))
  ·
   refine Wq<|qW 23 25 rfl<|qE rfl<|qA rfl<|Nl<|Wo rfl ‹_›<|Wq<|qW 35 37 rfl<|qE rfl<|qA rfl<|Nl<|Wt rfl ‹_›<|qW 41 43 rfl<|qF rfl ty27 rfl<|qS rfl ty4 (Sl rfl) rfl<|Nl ?_
   intro yJ KJ hJ
   refine W.nilc (q:=11) (j:=5) rfl rfl (Sl rfl)<|W.renameJ [(0,0),(1,1),(2,11)] 3 (by decide) ?_ ?_ (hJ (false,true,0,(([]:List AV)),0,a2) (show True from trivial))
   ·exact lC (lI rfl) (lC (lI rfl) (lC (lI rfl) lN))
   ·exact aU (kR rfl) (aU (kR rfl) (aU (kR rfl) aM))
  ·
   refine Wq<|qW 23 25 rfl<|qE rfl<|qA rfl<|Nl<|Wo rfl ‹_›<|Wq<|qW 35 37 rfl<|qE rfl<|qA rfl<|Nl<|Wo rfl ‹_›<|Wq<|qW 47 49 rfl<|qE rfl<|qA rfl<|Nl<|Wt rfl ‹_›<|qW 53 58 rfl<|qM rfl<|Od rfl rfl (C1 (fr:=[]) rfl rfl (n3) fok13 (.own rfl rfl (.cons rfl (.pure rfl) .nil)) rfl rfl rfl (Cn _ _) (by decide) rfl)<|qZ rfl (iW _ (by omega))<|qF rfl ty27 rfl<|qS rfl ty3 (Sl rfl) rfl<|Nl ?_
   intro yJ KJ hJ
   refine W.nilc (q:=11) (j:=5) rfl rfl (Sl rfl)<|W.renameJ [(0,0),(1,1),(2,11)] 3 (by decide) ?_ ?_ (hJ (false,false,((1 + e3)),(([]:List AV)),0,a3) (show True from trivial))
   ·exact lC (lI rfl) (lC (lI rfl) (lC (lI rfl) lN))
   ·exact aU (kR rfl) (aU (kR rfl) (aU (kR rfl) aM))
  ·
   refine Wq<|qW 23 25 rfl<|qE rfl<|qA rfl<|Nl<|Wo rfl ‹_›<|Wq<|qW 35 37 rfl<|qE rfl<|qA rfl<|Nl<|Wo rfl ‹_›<|Wq<|qW 47 49 rfl<|qE rfl<|qA rfl<|Nl<|Wo rfl ‹_›<|Wq<|qW 62 64 rfl<|qE rfl<|qA rfl<|Nl<|Wt rfl ‹_›<|qW 68 74 rfl<|qM rfl<|Od rfl rfl (C1 (fr:=[]) rfl rfl (n3) fok13 (.own rfl rfl (.cons rfl (.pure rfl) .nil)) rfl rfl rfl (Cn _ _) (by decide) rfl)<|qZ rfl (iW _ (by omega))<|Od rfl rfl (LO.buildSlice rfl ty22 ty3 (by decide) (by decide) (.cons rfl rfl rfl rfl (Sl rfl) .nil))<|qF rfl ty27 rfl<|qS rfl ty22 (Sl rfl) rfl<|Nl ?_
   intro yJ KJ hJ
   refine Wv (q:=11) (j:=5) (r:=71) rfl rfl (by decide) rfl (Tl rfl) rfl (Sl rfl)<|W.renameJ [(0,0),(1,1),(2,11)] 3 (by decide) ?_ ?_ (hJ (false,false,0,[AV.base (.int .i64 (101 + e3))],1,a3) (show True from trivial))
   ·exact lC (lI rfl) (lC (lI rfl) (lC (lI rfl) lN))
   ·exact aU (kR rfl) (aU (kR rfl) (aU (kR rfl) aM))
  ·
   refine Wq<|qW 23 25 rfl<|qE rfl<|qA rfl<|Nl<|Wo rfl ‹_›<|Wq<|qW 35 37 rfl<|qE rfl<|qA rfl<|Nl<|Wo rfl ‹_›<|Wq<|qW 47 49 rfl<|qE rfl<|qA rfl<|Nl<|Wo rfl ‹_›<|Wq<|qW 62 64 rfl<|qE rfl<|qA rfl<|Nl<|Wo rfl ‹_›<|Wu ?_
   intro yJ KJ hJ
   refine W.nilc (q:=11) (j:=5) rfl rfl (Sl rfl)<|W.renameJ [(0,0),(1,1),(2,11)] 3 (by decide) ?_ ?_ (hJ (false,false,0,(([]:List AV)),0,a2) (show True from trivial))
   ·exact lC (lI rfl) (lC (lI rfl) (lC (lI rfl) lN))
   ·exact aU (kR rfl) (aU (kR rfl) (aU (kR rfl) aM))
 clear hIJ
 refine Wq<|Wq<|qW 78 79 rfl<|qA rfl<|Nl<|W.namec 79 (79 + 1) (q:=2) (j:=6) (sz:=2) rfl rfl (Sl rfl) (by decide) (by decide) (by decide)<|Wb<|W.loop_keep (α:=Nat × Nat × List (Int × Int)) (fun x=>5 - x.1) 4 (fun x=>[(0,.own 0 0),(4,.own 1 0),(5,.own 2 0),(6,.base (.int .i64 (x.1:Int)))]) (fun x=>up (up (up (up mt 0 (some (deckC l x.2.1))) 1 (some ([.base (.int .i64 0),.base (.bool false),.base (.bool false),.base (.bool false),.base (.int .i64 0),.nils,.nils]))) 2 (some ([.base (.int .i64 asn),.base (.bool n4),.base (.bool n6),.base (.bool B),.base (.int .i64 hp),.isl dc dn,.osl 3 0 x.2.2.length 2]))) 3 (some (prsC x.2.2))) (fun x=>(x.1≤5∧x.2.2.length≤x.1)∧∀ z:Int × Int,z∈x.2.2→-10≤z.2∧z.2≤10) (0,a,(([]:List (Int × Int)))) [(0,0),(1,1),(2,2),(3,79)] .nil (show (0≤5∧(([]:List (Int × Int))).length≤0)∧∀ z:Int × Int,z∈(([]:List (Int × Int)))→-10≤z.2∧z.2≤10 from ⟨⟨by decide,by decide⟩,fun x hx=>(by cases hx)⟩) (by decide) ?_ ?_ ?_
 ·exact lC (lI rfl) (lC (lI rfl) (lC (lI rfl) (lC (lR rfl) lN)))
 ·exact aU (kR rfl) (aU (kI rfl) (aU (kR rfl) (aU (kR rfl) aM)))
 rintro ⟨k,b,prs⟩ hIA ihA
 try (dsimp only at hIA)
 try dsimp only [baseT,List.cons_append,List.nil_append]
 obtain ⟨⟨hk,hpk⟩,hpb⟩:=hIA
 by_cases hc:k < 5
 rotate_left
 ·have g1:decide ((k:Int) < 5)=false:=decide_eq_false (by omega)
  refine Wq<|Wq<|qW 83 85 rfl<|qM rfl<|qK rfl<|Nl<|Wo rfl ‹_›<|Wx<|Wv (q:=2) (j:=6) (r:=3) rfl rfl (by decide) rfl (prs_tk rfl) (prsC_pure _) (Sl rfl)<|Wq<|qW 119 121 rfl<|qG rfl ty27 rfl (Tl rfl)<|qS rfl ty27 (Sl rfl) rfl<|Nl<|Wz ⟨.inl rfl,_,(up mt 0 (some (deckC l b))),(Rc (Ra0 rfl rfl ty27 rfl (Tl rfl)) Rv),(aU rfl aM),?_⟩
  exact ⟨⟨asn,n4,n6,B,hp,dc,dn,prs⟩,b,⟨by show prs.length≤10;omega,hpb⟩,rfl,rfl⟩
 have g1:decide ((k:Int) < 5)=true:=decide_eq_true (by omega)
 have hkk:(k:Int) + 1=((k + 1:Nat):Int):=by omega
 obtain ⟨b1,hb1⟩:∃ a1,nextAt l b=a1:=⟨_,rfl⟩
 have m1:=next_any l b 4 (by decide) (by decide) hl
 obtain ⟨f1,hf1⟩:∃ e1,nextV l b 4=e1:=⟨_,rfl⟩
 rw [hf1,hb1] at m1
 obtain ⟨b2,hb2⟩:∃ a1,nextAt l b1=a1:=⟨_,rfl⟩
 have m2:=next_any l b1 5 (by decide) (by decide) hl
 have c2:=nextV_bd l b1 5 (by decide)
 obtain ⟨f2,hf2⟩:∃ e1,nextV l b1 5=e1:=⟨_,rfl⟩
 rw [hf2] at c2
 rw [hf2,hb2] at m2
 have hap:prsC prs++[AV.base (.int .i64 (101 + (k:Int))),AV.base (.int .i64 (f2 - 2))]=prsC (prs++[(101 + (k:Int),f2 - 2)]):=by rw [prsC_app];rfl
 have hl1:prs.length + 1=(prs++[(101 + (k:Int),f2 - 2)]).length:=by simp
 refine Wq<|Wq<|qW 83 85 rfl<|qM rfl<|qK rfl<|Nl<|Wt rfl ‹_›<|Wu<|Wq<|Wb<|Wq<|qW 89 92 rfl<|qM rfl<|Od rfl rfl (C1 (fr:=[]) rfl rfl (m1) fok13 (.own rfl rfl (.cons rfl (.pure rfl) .nil)) rfl rfl rfl (Cn _ _) (by decide) rfl)<|qE rfl<|Nl ?_
 rcases Bool.eq_false_or_eq_true (f1 == 0) with g2|g2
 ·
  refine Wt rfl ‹_›<|Wd 96 108 (by decide) rfl mixed rfl<|qF rfl ty27 rfl<|qL rfl ty25 rfl<|qM rfl<|qZ rfl (iW _ (by omega))<|qM rfl<|Od rfl rfl (C1 (fr:=[]) rfl rfl (m2) fok13 (.own rfl rfl (.cons rfl (.pure rfl) .nil)) rfl rfl rfl (Cn _ _) (by decide) rfl)<|Od rfl rfl (LO.sub_in rfl rfl rfl (iW _ (by omega)))<|Od rfl rfl (Bs rfl ty41 (.cons rfl rfl rfl rfl (Sl rfl) (.cons rfl rfl rfl rfl (Sl rfl) .nil)))<|Od rfl rfl (LO.buildSlice rfl ty25 ty41 (by decide) (by decide) (.cons rfl rfl rfl rfl (Sl rfl) .nil))<|Od rfl rfl (Lap rfl rfl (Sso rfl rfl (Tl rfl)) rfl (prs_tk rfl) ty25 ty25 ty41 (by decide) (by omega) (by omega) (by decide))<|qF rfl ty27 rfl<|qS rfl ty25 (Sl rfl) rfl<|Nl ⟨by kernel_rfl,?_⟩
  rw [hap,hl1]
  refine qW 112 115 rfl<|qM rfl<|qZ rfl (iW _ (by omega))<|qA rfl<|Nl ?_
  rw [hkk]
  refine WL.renameL [(0,0),(1,1),(2,2),(3,105)] 4 (by decide) ?_ ?_ (ihA ((k + 1),b2,(prs++[(101 + (k:Int),f2 - 2)])) (show 5 - (k + 1) < 5 - k from by omega) (show ((k + 1)≤5∧(prs++[(101 + (k:Int),f2 - 2)]).length≤(k + 1))∧∀ z:Int × Int,z∈(prs++[(101 + (k:Int),f2 - 2)])→-10≤z.2∧z.2≤10 from ⟨⟨by omega,by rw [← hl1];omega⟩,fun x hx=>(by rcases List.mem_append.1 hx with h|h;exact hpb x h;rw [List.mem_singleton] at h;subst h;show -10≤f2 - 2∧f2 - 2≤10;omega)⟩))
  ·exact lC (lI rfl) (lC (lI rfl) (lC (lI rfl) (lC (lR rfl) lN)))
  ·exact aU (kP rfl (prsC_pure _)) (aU (kI rfl) (aU (kR rfl) (aU (kR rfl) aM)))
 ·
  refine Wo rfl ‹_›<|Wu<|qW 112 115 rfl<|qM rfl<|qZ rfl (iW _ (by omega))<|qA rfl<|Nl ?_
  rw [hkk]
  refine WL.renameL [(0,0),(1,1),(2,2),(3,3)] 4 (by decide) ?_ ?_ (ihA ((k + 1),b1,prs) (show 5 - (k + 1) < 5 - k from by omega) (show ((k + 1)≤5∧prs.length≤(k + 1))∧∀ z:Int × Int,z∈prs→-10≤z.2∧z.2≤10 from ⟨⟨by omega,by omega⟩,hpb⟩))
  ·exact lC (lI rfl) (lC (lI rfl) (lC (lI rfl) (lC (lR rfl) lN)))
  ·exact aU (kP rfl (prsC_pure _)) (aU (kI rfl) (aU (kR rfl) (aU (kR rfl) aM)))
end Go.Proofs.Ythbegdeojkdlbaa
