/-
  Attributes from a list of numbers.
-/
import Derived.Test.YthbegdeojkdlbaaCb
import Derived.Test.YthbegdeojkdlbaaMab
namespace Go.Proofs.Ythbegdeojkdlbaa
open Go.RowKit
def segC (s:Bool × List Int):List AV:=[.base (.bool s.1),.isl (intsC s.2) s.2.length]
def segsC (p:List (Bool × List Int)):List AV:=p.flatMap segC
structure At where
 org:Int
 path:List (Bool × List Int)
 nx:Ad
 med:Int
 pref:Int
 otc:Int
 cc:List AV
 cn:Nat
 lc:List AV
 ln:Nat
 oc:List AV
 on:Nat
def atC (a:At):List AV:=[.base (.int .i64 a.org),.isl (segsC a.path) a.path.length,.base (.bool a.nx.v6),.base (.int .u64 a.nx.hi),.base (.int .u64 a.nx.lo),.base (.int .i64 a.med),.base (.int .i64 a.pref),.base (.int .i64 a.otc),.isl a.cc a.cn,.isl a.lc a.ln,.isl a.oc a.on]
def GoodAt (a:At):Prop:=(0≤a.org∧a.org≤2)∧(-1≤a.med∧a.med≤2)∧a.path.length≤10∧∀ s∈a.path,s.2.length≤10
def seven (x:Int):List AV:=[.base (.int .i64 x),.base (.int .i64 101),.base (.int .i64 102),.base (.int .i64 201),.base (.int .i64 202),.base (.int .i64 203),.base (.int .i64 301)]
theorem seven_at {x:Int} {i:Nat} (h:i < 7):∃ y:Int,(seven x)[0 + i * 1]?=some (.base (.int .i64 y)):=by
 rcases (show i=0∨i=1∨i=2∨i=3∨i=4∨i=5∨i=6 by omega) with rfl|rfl|rfl|rfl|rfl|rfl|rfl<;>exact ⟨_,rfl⟩
theorem empty_any:AFn Try.prog 29 0 [] mt (.agg [.base (.int .i64 (-1)),.nils,.base (.bool false),.base (.int .u64 0),.base (.int .u64 0),.base (.int .i64 (-1)),.base (.int .i64 (-1)),.base (.int .i64 (-1)),.nils,.nils,.nils]) mt:=by
 refine AFn.eq Try.func29 rfl rfl (Nat.le_of_ble_eq_true rfl)<|Wq<|qW 0 1 rfl<|qB rfl ty52<|Nl<|Wq<|qW 5 7 rfl<|Od rfl rfl (Bs rfl ty52 (.cons rfl rfl rfl rfl (Sl rfl) (.cons rfl rfl rfl rfl (Sl rfl) (.cons rfl rfl rfl rfl (Sl rfl) (.cons rfl rfl rfl rfl (Sl rfl) .nil)))))<|qS rfl ty52 (Sl rfl) rfl<|Nl<|Wz ⟨.inl rfl,_,mt,(Rc (Ra0 rfl rfl ty52 rfl (Tl rfl)) Rv),aM,?_⟩
 exact ⟨rfl,rfl⟩
theorem ints_sp {l:List Int} {k:Nat} {v:Int} (h:k < l.length):Sp (intsC l) (0 + k * 1) [.base (.int .i64 v)] (intsC (l.set k v)):=by
 have:=Sp.set (intsC l) k (.base (.int .i64 v)) (by rwa [intsC_len])
 rw [show intsC (l.set k v)=(intsC l).set k (.base (.int .i64 v)) from by simp [intsC,List.map_set]]
 simpa using this
set_option maxHeartbeats 4000000 in
theorem attrs_any (l:List Int) (at_:Nat) (asn:Int) (v6:Bool) (hl:l.length≤9223372036854775807) :
 ∃ v H',AFn Try.prog 21 1 [.own 0 0,.base (.int .i64 asn),.base (.bool v6)] (up mt 0 (some (deckC l at_))) v H'∧∃ (a:At) (at':Nat),GoodAt a∧v=.agg (atC a)∧H'=up mt 0 (some (deckC l at')):=by
 refine AFn.ex Try.func21 rfl rfl (Nat.le_of_ble_eq_true rfl) ?_
 obtain ⟨a1,ha1⟩:∃ a1,nextAt l at_=a1:=⟨_,rfl⟩
 have n1:=next_any l at_ 3 (by decide) (by decide) hl
 have b1:=nextV_bd l at_ 3 (by decide)
 obtain ⟨og,hog⟩:∃ og,nextV l at_ 3=og:=⟨_,rfl⟩
 rw [hog] at b1
 rw [hog,ha1] at n1
 obtain ⟨a2,ha2⟩:∃ a2,nextAt l a1=a2:=⟨_,rfl⟩
 have n2:=next_any l a1 4 (by decide) (by decide) hl
 have b2:=nextV_bd l a1 4 (by decide)
 obtain ⟨k0,hk0⟩:∃ k0:Nat,nextV l a1 4=(k0:Int):=⟨(nextV l a1 4).toNat,by omega⟩
 rw [hk0] at b2
 rw [hk0,ha2] at n2
 refine Wq<|qW 1 2 rfl<|qB rfl ty52<|Nl<|Wq<|qW 6 9 rfl<|qY rfl (empty_any) fok29 rfl<|qB rfl ty52<|qS rfl ty52 (Sl rfl) rfl<|Nl<|Wq<|qW 13 17 rfl<|qM rfl<|Od rfl rfl (C1 (fr:=[]) rfl rfl (n1) fok13 (.own rfl rfl (.cons rfl (.pure rfl) .nil)) rfl rfl rfl (Cn _ _) (by decide) rfl)<|qF rfl ty52 rfl<|qS rfl ty3 (Sl rfl) rfl<|Nl<|Wq<|qW 21 24 rfl<|qM rfl<|Od rfl rfl (LO.buildSlice rfl ty22 ty3 (by decide) (by decide) (.cons rfl rfl rfl rfl (Sl rfl) .nil))<|qA rfl<|Nl<|Wq<|Wq<|qW 28 31 rfl<|qM rfl<|Od rfl rfl (C1 (fr:=[]) rfl rfl (n2) fok13 (.own rfl rfl (.cons rfl (.pure rfl) .nil)) rfl rfl rfl (Cn _ _) (by decide) rfl)<|qA rfl<|Nl<|Wb<|W.loop_keep (α:=Nat × Nat × List Int) (fun x=>x.1) 4 (fun x=>[(0,.own 0 0),(6,.own 1 0),(7,.own 2 0),(8,.osl 3 0 x.2.2.length 1),(9,.base (.int .i64 (x.1:Int)))]) (fun x=>up (up (up (up mt 0 (some (deckC l x.2.1))) 1 (some ([.base (.int .i64 0),.nils,.base (.bool false),.base (.int .u64 0),.base (.int .u64 0),.base (.int .i64 0),.base (.int .i64 0),.base (.int .i64 0),.nils,.nils,.nils]))) 2 (some ([.base (.int .i64 og),.nils,.base (.bool false),.base (.int .u64 0),.base (.int .u64 0),.base (.int .i64 (-1)),.base (.int .i64 (-1)),.base (.int .i64 (-1)),.nils,.nils,.nils]))) 3 (some (intsC x.2.2))) (fun x=>x.2.2.length + x.1≤5∧1≤x.2.2.length) (k0,a2,[asn]) [(0,0),(1,1),(2,7),(3,22)] (.cons (t:=1) rfl (by exact .inl rfl) (.cons (t:=2) rfl (by exact .inl rfl) .nil)) (show [asn].length + k0≤5∧1≤[asn].length from ⟨by show 1 + k0≤5;omega,Nat.le_refl 1⟩) (by decide) ?_ ?_ ?_
 ·exact lC (lI rfl) (lC (lI rfl) (lC (lI rfl) (lC (lI rfl) (lC (lR rfl) lN))))
 ·exact aU (kR rfl) (aU (kR rfl) (aU (kR rfl) (aU (kR rfl) aM)))
 rintro ⟨k,a,ps⟩ hIA ihA
 try (dsimp only at hIA)
 try dsimp only [baseT,List.cons_append,List.nil_append]
 obtain ⟨hpk,hp1⟩:=hIA
 by_cases hk:k=0
 rotate_left
 ·have g1:decide ((k:Int) > 0)=true:=decide_eq_true (by omega)
  have hkk:(k:Int) - 1=((k - 1:Nat):Int):=by omega
  obtain ⟨a3,ha3⟩:∃ a3,nextAt l a=a3:=⟨_,rfl⟩
  have n3:=next_any l a 7 (by decide) (by decide) hl
  have b3:=nextV_bd l a 7 (by decide)
  obtain ⟨j,hj⟩:∃ j:Nat,nextV l a 7=(j:Int):=⟨(nextV l a 7).toNat,by omega⟩
  rw [hj] at b3
  rw [hj,ha3] at n3
  obtain ⟨y,hy⟩:=seven_at (x:=asn) (i:=j) (by omega)
  have hap:intsC ps++[AV.base (.int .i64 y)]=intsC (ps++[y]):=by rw [intsC_app];rfl
  have hl1:ps.length + 1=(ps++[y]).length:=by simp
  refine Wq<|Wq<|qW 35 37 rfl<|qM rfl<|qGt rfl<|Nl<|Wt rfl ‹_›<|Wu<|Wq<|Wb<|qW 41 51 rfl<|qM rfl<|qM rfl<|Od rfl rfl (LO.buildSlice rfl ty22 ty3 (by decide) (by decide) (.cons rfl rfl rfl rfl (Sl rfl) (.cons rfl rfl rfl rfl (Sl rfl) (.cons rfl rfl rfl rfl (Sl rfl) (.cons rfl rfl rfl rfl (Sl rfl) (.cons rfl rfl rfl rfl (Sl rfl) (.cons rfl rfl rfl rfl (Sl rfl) (.cons rfl rfl rfl rfl (Sl rfl) .nil))))))))<|qM rfl<|Od rfl rfl (C1 (fr:=[]) rfl rfl (n3) fok13 (.own rfl rfl (.cons rfl (.pure rfl) .nil)) rfl rfl rfl (Cn _ _) (by decide) rfl)<|Od rfl rfl (Ia rfl rfl rfl rfl ty22 ty3 (by omega))<|Od rfl rfl (Ld rfl rfl rfl hy ty3 rfl)<|Od rfl rfl (LO.buildSlice rfl ty22 ty3 (by decide) (by decide) (.cons rfl rfl rfl rfl (Sl rfl) .nil))<|Od rfl rfl (Lap rfl rfl (Sso rfl rfl (Tl rfl)) rfl (ints_tk rfl) ty22 ty22 ty3 (by decide) (by omega) (by omega) (by decide))<|qA rfl<|Nl ?_
  rw [hap,hl1]
  refine qW 55 58 rfl<|qM rfl<|Od rfl rfl (LO.sub_in rfl rfl rfl (iW _ (by omega)))<|qA rfl<|Nl ?_
  rw [hkk]
  refine WL.renameL [(0,0),(1,1),(2,2),(3,49)] 4 (by decide) ?_ ?_ (ihA ((k - 1),a3,(ps++[y])) (show (k - 1) < k from by omega) (show (ps++[y]).length + (k - 1)≤5∧1≤(ps++[y]).length from ⟨by rw [← hl1];omega,by rw [← hl1];omega⟩))
  ·exact lC (lI rfl) (lC (lI rfl) (lC (lI rfl) (lC (lI rfl) (lC (lR rfl) (lC (lR rfl) (lC (lR rfl) lN))))))
  ·exact aU (kP rfl (intsC_pure _)) (aU (kR rfl) (aU (kR rfl) (aU (kR rfl) aM)))
 have g1:decide ((k:Int) > 0)=false:=decide_eq_false (by omega)
 refine Wq<|Wq<|qW 35 37 rfl<|qM rfl<|qGt rfl<|Nl<|Wo rfl ‹_›<|Wx ?_
 have hk0:k=0:=hk
 have hogb:0≤og∧og≤2:=⟨by omega,by omega⟩
 refine Wq<|qW 62 67 rfl<|qM rfl<|Od rfl rfl (Bs rfl ty61 (.cons rfl rfl rfl rfl (Sl rfl) .nil))<|Od rfl rfl (LO.buildSlice rfl ty47 ty61 (by decide) (by decide) (.cons rfl rfl rfl rfl (Sl rfl) .nil))<|qF rfl ty52 rfl<|qS rfl ty47 (Sl rfl) rfl<|Nl ?_
 obtain ⟨_,_,hpt,nx,rfl,rfl⟩:=port_any asn v6
 obtain ⟨nv,nh,nl⟩:=nx
 unfold adC at hpt
 refine Wq<|qW 71 76 rfl<|qM rfl<|qM rfl<|qY rfl (hpt) fok30 rfl<|qF rfl ty52 rfl<|qS rfl ty44 (Sl rfl) rfl<|Nl ?_
 obtain ⟨a4,ha4⟩:∃ a4,nextAt l a=a4:=⟨_,rfl⟩
 have n4:=next_any l a 3 (by decide) (by decide) hl
 obtain ⟨e4,he4⟩:∃ e4,nextV l a 3=e4:=⟨_,rfl⟩
 rw [he4,ha4] at n4
 refine Wq<|Wq<|qW 80 83 rfl<|qM rfl<|Od rfl rfl (C1 (fr:=[]) rfl rfl (n4) fok13 (.own rfl rfl (.cons rfl (.pure rfl) .nil)) rfl rfl rfl (Cn _ _) (by decide) rfl)<|qE rfl<|Nl<|W.joinK (α:=Int × Nat) 5 (fun x=>[(0,.own 0 0),(6,.own 1 0),(7,.own 2 0)]) (fun x=>up (up (up (up (up mt 0 (some (deckC l x.2))) 1 (some ([.base (.int .i64 0),.nils,.base (.bool false),.base (.int .u64 0),.base (.int .u64 0),.base (.int .i64 0),.base (.int .i64 0),.base (.int .i64 0),.nils,.nils,.nils]))) 2 (some ([.base (.int .i64 og),.osl 4 0 1 2,.base (.bool nv),.base (.int .u64 nh),.base (.int .u64 nl),.base (.int .i64 x.1),.base (.int .i64 (-1)),.base (.int .i64 (-1)),.nils,.nils,.nils]))) 3 (some (intsC ps))) 4 (some ([.base (.bool false),.osl 3 0 ps.length 1]))) (fun x=>-1≤x.1∧x.1≤2) (.cons (t:=2) rfl (by exact .inl rfl) .nil) ?_ ?_
 rotate_left
 rintro ⟨md,b⟩ hIM
 try (dsimp only at hIM)
 try dsimp only [joinT,baseT,List.cons_append,List.nil_append]
 rotate_right
 ·rcases Bool.eq_false_or_eq_true (e4 == 0) with g2|g2
  ·
   obtain ⟨a5,ha5⟩:∃ a5,nextAt l a4=a5:=⟨_,rfl⟩
   have n5:=next_any l a4 3 (by decide) (by decide) hl
   have b5:=nextV_bd l a4 3 (by decide)
   obtain ⟨e5,he5⟩:∃ e5,nextV l a4 3=e5:=⟨_,rfl⟩
   rw [he5] at b5
   rw [he5,ha5] at n5
   refine Wt rfl ‹_›<|qW 87 91 rfl<|qM rfl<|Od rfl rfl (C1 (fr:=[]) rfl rfl (n5) fok13 (.own rfl rfl (.cons rfl (.pure rfl) .nil)) rfl rfl rfl (Cn _ _) (by decide) rfl)<|qF rfl ty52 rfl<|qS rfl ty3 (Sl rfl) rfl<|Nl ?_
   intro yJ KJ hJ
   refine W.renameJ [(0,0),(1,1),(2,2),(3,3),(4,64)] 5 (by decide) ?_ ?_ (hJ (e5,a5) (show -1≤e5∧e5≤2 from ⟨by omega,by omega⟩))
   ·exact lC (lI rfl) (lC (lI rfl) (lC (lI rfl) (lC (lR rfl) lN)))
   ·exact aU (kI rfl) (aU (kP rfl (intsC_pure _)) (aU (kI rfl) (aU (kR rfl) (aU (kR rfl) aM))))
  ·
   refine Wo rfl ‹_›<|Wu ?_
   intro yJ KJ hJ
   refine W.renameJ [(0,0),(1,1),(2,2),(3,3),(4,64)] 5 (by decide) ?_ ?_ (hJ (((-1)),a4) (show -1≤((-1))∧((-1))≤2 from ⟨by decide,by decide⟩))
   ·exact lC (lI rfl) (lC (lI rfl) (lC (lI rfl) (lC (lR rfl) lN)))
   ·exact aU (kI rfl) (aU (kP rfl (intsC_pure _)) (aU (kI rfl) (aU (kR rfl) (aU (kR rfl) aM))))
 have hmd:-1≤md∧md≤2:=hIM
 clear hIM
 obtain ⟨a6,ha6⟩:∃ a6,nextAt l b=a6:=⟨_,rfl⟩
 have n6:=next_any l b 6 (by decide) (by decide) hl
 obtain ⟨e6,he6⟩:∃ e6,nextV l b 6=e6:=⟨_,rfl⟩
 rw [he6,ha6] at n6
 refine Wq<|Wq<|qW 95 98 rfl<|qM rfl<|Od rfl rfl (C1 (fr:=[]) rfl rfl (n6) fok13 (.own rfl rfl (.cons rfl (.pure rfl) .nil)) rfl rfl rfl (Cn _ _) (by decide) rfl)<|qE rfl<|Nl<|W.joinK (α:=Int × Nat) 5 (fun x=>[(0,.own 0 0),(6,.own 1 0),(7,.own 2 0)]) (fun x=>up (up (up (up (up mt 0 (some (deckC l x.2))) 1 (some ([.base (.int .i64 0),.nils,.base (.bool false),.base (.int .u64 0),.base (.int .u64 0),.base (.int .i64 0),.base (.int .i64 0),.base (.int .i64 0),.nils,.nils,.nils]))) 2 (some ([.base (.int .i64 og),.osl 4 0 1 2,.base (.bool nv),.base (.int .u64 nh),.base (.int .u64 nl),.base (.int .i64 md),.base (.int .i64 x.1),.base (.int .i64 (-1)),.nils,.nils,.nils]))) 3 (some (intsC ps))) 4 (some ([.base (.bool false),.osl 3 0 ps.length 1]))) (fun x=>True) (.cons (t:=2) rfl (by exact .inl rfl) .nil) ?_ ?_
 rotate_left
 rintro ⟨pf,c⟩ hIN
 try (dsimp only at hIN)
 try dsimp only [joinT,baseT,List.cons_append,List.nil_append]
 rotate_right
 ·rcases Bool.eq_false_or_eq_true (e6 == 0) with g2|g2
  ·
   obtain ⟨a7,ha7⟩:∃ a7,nextAt l a6=a7:=⟨_,rfl⟩
   have n7:=next_any l a6 300 (by decide) (by decide) hl
   obtain ⟨e7,he7⟩:∃ e7,nextV l a6 300=e7:=⟨_,rfl⟩
   rw [he7,ha7] at n7
   refine Wt rfl ‹_›<|qW 102 106 rfl<|qM rfl<|Od rfl rfl (C1 (fr:=[]) rfl rfl (n7) fok13 (.own rfl rfl (.cons rfl (.pure rfl) .nil)) rfl rfl rfl (Cn _ _) (by decide) rfl)<|qF rfl ty52 rfl<|qS rfl ty3 (Sl rfl) rfl<|Nl ?_
   intro yJ KJ hJ
   refine W.renameJ [(0,0),(1,1),(2,2),(3,3),(4,4)] 5 (by decide) ?_ ?_ (hJ (e7,a7) (show True from trivial))
   ·exact lC (lI rfl) (lC (lI rfl) (lC (lI rfl) (lC (lR rfl) lN)))
   ·exact aU (kI rfl) (aU (kP rfl (intsC_pure _)) (aU (kI rfl) (aU (kR rfl) (aU (kR rfl) aM))))
  ·
   refine Wo rfl ‹_›<|Wu ?_
   intro yJ KJ hJ
   refine W.renameJ [(0,0),(1,1),(2,2),(3,3),(4,4)] 5 (by decide) ?_ ?_ (hJ (((-1)),a6) (show True from trivial))
   ·exact lC (lI rfl) (lC (lI rfl) (lC (lI rfl) (lC (lR rfl) lN)))
   ·exact aU (kI rfl) (aU (kP rfl (intsC_pure _)) (aU (kI rfl) (aU (kR rfl) (aU (kR rfl) aM))))
 clear hIN
 obtain ⟨_,_,hcm,cc,cn,a8,rfl,rfl⟩:=comms_any l c hl
 obtain ⟨_,_,hlg,lc,ln,a9,rfl,rfl⟩:=large_any l a8 hl
 obtain ⟨b1',hb1'⟩:∃ b,nextAt l a9=b:=⟨_,rfl⟩
 have n9:=next_any l a9 24 (by decide) (by decide) hl
 obtain ⟨e9,he9⟩:∃ e9,nextV l a9 24=e9:=⟨_,rfl⟩
 rw [he9,hb1'] at n9
 refine Wq<|qW 110 118 rfl<|qM rfl<|Od rfl rfl (C1 (fr:=[]) rfl rfl (hcm) fok31 (.own rfl rfl .nil) rfl rfl rfl (Cn _ _) (by decide) rfl)<|qM rfl<|Od rfl rfl (C1 (fr:=[]) rfl rfl (hlg) fok32 (.own rfl rfl .nil) rfl rfl rfl (Cn _ _) (by decide) rfl)<|qF rfl ty52 rfl<|qS rfl ty48 (Sl rfl) rfl<|qF rfl ty52 rfl<|qS rfl ty49 (Sl rfl) rfl<|Nl<|Wq<|Wq<|qW 122 124 rfl<|qM rfl<|Od rfl rfl (C1 (fr:=[]) rfl rfl (n9) fok13 (.own rfl rfl (.cons rfl (.pure rfl) .nil)) rfl rfl rfl (Cn _ _) (by decide) rfl)<|Nl ?_
 have hcase:(e9 == 0)=true∨((e9 == 0)=false∧(e9 == 1)=true)∨((e9 == 0)=false∧(e9 == 1)=false∧(e9 == 2)=true)∨((e9 == 0)=false∧(e9 == 1)=false∧(e9 == 2)=false∧(e9 == 3)=true)∨((e9 == 0)=false∧(e9 == 1)=false∧(e9 == 2)=false∧(e9 == 3)=false∧(e9 == 4)=true)∨((e9 == 0)=false∧(e9 == 1)=false∧(e9 == 2)=false∧(e9 == 3)=false∧(e9 == 4)=false∧(e9 == 5)=true)∨((e9 == 0)=false∧(e9 == 1)=false∧(e9 == 2)=false∧(e9 == 3)=false∧(e9 == 4)=false∧(e9 == 5)=false∧(e9 == 6)=true)∨((e9 == 0)=false∧(e9 == 1)=false∧(e9 == 2)=false∧(e9 == 3)=false∧(e9 == 4)=false∧(e9 == 5)=false∧(e9 == 6)=false∧(e9 == 7)=true)∨((e9 == 0)=false∧(e9 == 1)=false∧(e9 == 2)=false∧(e9 == 3)=false∧(e9 == 4)=false∧(e9 == 5)=false∧(e9 == 6)=false∧(e9 == 7)=false):=by
  cases (e9 == 0)<;>cases (e9 == 1)<;>cases (e9 == 2)<;>cases (e9 == 3)<;>cases (e9 == 4)<;>cases (e9 == 5)<;>cases (e9 == 6)<;>cases (e9 == 7)<;>simp
 have hpsl:ps.length≤5:=by omega
 refine Wb ?_
 rcases hcase with q0|⟨q0,q1⟩|⟨q0,q1,q2⟩|⟨q0,q1,q2,q3⟩|⟨q0,q1,q2,q3,q4⟩|⟨q0,q1,q2,q3,q4,q5⟩|⟨q0,q1,q2,q3,q4,q5,q6⟩|⟨q0,q1,q2,q3,q4,q5,q6,q7⟩|⟨q0,q1,q2,q3,q4,q5,q6,q7⟩
 ·
  obtain ⟨a10,ha10⟩:∃ b,nextAt l b1'=b:=⟨_,rfl⟩
  have n10:=next_any l b1' 300 (by decide) (by decide) hl
  have b10:=nextV_bd l b1' 300 (by decide)
  obtain ⟨e10,he10⟩:∃ e10,nextV l b1' 300=e10:=⟨_,rfl⟩
  rw [he10] at b10
  rw [he10,ha10] at n10
  refine Wq<|qW 128 130 rfl<|qE rfl<|qA rfl<|Nl<|Wt rfl ‹_›<|qW 134 139 rfl<|qM rfl<|Od rfl rfl (C1 (fr:=[]) rfl rfl (n10) fok13 (.own rfl rfl (.cons rfl (.pure rfl) .nil)) rfl rfl rfl (Cn _ _) (by decide) rfl)<|qZ rfl (iW _ (by omega))<|qF rfl ty52 rfl<|qS rfl ty3 (Sl rfl) rfl<|Nl<|Wv (q:=4) (j:=1) (r:=3) rfl rfl (by decide) rfl (ints_tk rfl) (intsC_pure _) (Sl rfl)<|Wv (q:=2) (j:=1) (r:=4) rfl rfl (by decide) rfl (Tl rfl) rfl (Sl rfl)<|W.nilc (q:=2) (j:=10) rfl rfl (Sl rfl)<|Wq<|qW 266 268 rfl<|qG rfl ty52 rfl (Tl rfl)<|qS rfl ty52 (Sl rfl) rfl<|Nl<|Wz ⟨.inl rfl,_,(up mt 0 (some (deckC l a10))),(Rc (Ra0 rfl rfl ty52 rfl (Tl rfl)) Rv),(aU rfl aM),?_⟩
  exact ⟨⟨og,[(false,ps)],⟨nv,nh,nl⟩,md,pf,1 + e10,cc,cn,lc,ln,[],0⟩,a10,⟨hogb,hmd,(by simp),(by intro s hs;simp at hs;subst hs;show ps.length≤10;omega)⟩,rfl,rfl⟩
 ·
  refine Wq<|qW 128 130 rfl<|qE rfl<|qA rfl<|Nl<|Wo rfl ‹_›<|Wq<|qW 143 145 rfl<|qE rfl<|qA rfl<|Nl<|Wt rfl ‹_›<|qW 149 156 rfl<|qF rfl ty52 rfl<|qL rfl ty47 rfl<|Od rfl rfl (Ia rfl rfl rfl rfl ty47 ty61 (by decide))<|qF rfl ty61 rfl<|qL rfl ty22 rfl<|Od rfl rfl (Ia rfl rfl rfl rfl ty22 ty3 ‹_›)<|qS rfl ty3 (ints_sp (by exact hp1)) rfl<|Nl ?_
  have hsl:(ps.set 0 103).length=ps.length:=by simp
  refine Wv (q:=4) (j:=1) (r:=3) rfl rfl (by decide) rfl (ints_tk hsl) (intsC_pure _) (Sl rfl)<|Wv (q:=2) (j:=1) (r:=4) rfl rfl (by decide) rfl (Tl rfl) rfl (Sl rfl)<|W.nilc (q:=2) (j:=10) rfl rfl (Sl rfl) ?_
  rw [← hsl]
  refine Wq<|qW 266 268 rfl<|qG rfl ty52 rfl (Tl rfl)<|qS rfl ty52 (Sl rfl) rfl<|Nl<|Wz ⟨.inl rfl,_,(up mt 0 (some (deckC l b1'))),(Rc (Ra0 rfl rfl ty52 rfl (Tl rfl)) Rv),(aU rfl aM),?_⟩
  exact ⟨⟨og,[(false,ps.set 0 103)],⟨nv,nh,nl⟩,md,pf,-1,cc,cn,lc,ln,[],0⟩,b1',⟨hogb,hmd,(by simp),(by intro s hs;simp at hs;subst hs;show (ps.set 0 103).length≤10;omega)⟩,rfl,rfl⟩
 ·
  refine Wq<|qW 128 130 rfl<|qE rfl<|qA rfl<|Nl<|Wo rfl ‹_›<|Wq<|qW 143 145 rfl<|qE rfl<|qA rfl<|Nl<|Wo rfl ‹_›<|Wq<|qW 160 162 rfl<|qE rfl<|qA rfl<|Nl<|Wt rfl ‹_›<|qW 166 174 rfl<|qF rfl ty52 rfl<|qL rfl ty47 rfl<|Od rfl rfl (LO.buildSlice rfl ty22 ty3 (by decide) (by decide) (.cons rfl rfl rfl rfl (Sl rfl) (.cons rfl rfl rfl rfl (Sl rfl) .nil)))<|Od rfl rfl (Bs rfl ty61 (.cons rfl rfl rfl rfl (Sl rfl) (.cons rfl rfl rfl rfl (Sl rfl) .nil)))<|Od rfl rfl (LO.buildSlice rfl ty47 ty61 (by decide) (by decide) (.cons rfl rfl rfl rfl (Sl rfl) .nil))<|Od rfl rfl (Lap rfl rfl (Sso rfl rfl (Tl rfl)) rfl (Tl rfl) ty47 ty47 ty61 (by decide) (by decide) (by decide) (by decide))<|qF rfl ty52 rfl<|qS rfl ty47 (Sl rfl) rfl<|Nl<|Wv (q:=171) (j:=1) (r:=3) rfl rfl (by decide) rfl (ints_tk rfl) (intsC_pure _) (Sl rfl)<|Wv (q:=171) (j:=3) (r:=168) rfl rfl (by decide) rfl (ints_tk (l:=[7,9]) rfl) (intsC_pure _) (Sl rfl)<|Wv (q:=2) (j:=1) (r:=171) rfl rfl (by decide) rfl (Tl rfl) rfl (Sl rfl)<|W.nilc (q:=2) (j:=10) rfl rfl (Sl rfl)<|Wq<|qW 266 268 rfl<|qG rfl ty52 rfl (Tl rfl)<|qS rfl ty52 (Sl rfl) rfl<|Nl<|Wz ⟨.inl rfl,_,(up mt 0 (some (deckC l b1'))),(Rc (Ra0 rfl rfl ty52 rfl (Tl rfl)) Rv),(aU rfl aM),?_⟩
  exact ⟨⟨og,[(false,ps),(true,[7,9])],⟨nv,nh,nl⟩,md,pf,-1,cc,cn,lc,ln,[],0⟩,b1',⟨hogb,hmd,(by simp),(by intro s hs;simp at hs;rcases hs with rfl|rfl;(show ps.length≤10;omega);decide)⟩,rfl,rfl⟩
 ·
  refine Wq<|qW 128 130 rfl<|qE rfl<|qA rfl<|Nl<|Wo rfl ‹_›<|Wq<|qW 143 145 rfl<|qE rfl<|qA rfl<|Nl<|Wo rfl ‹_›<|Wq<|qW 160 162 rfl<|qE rfl<|qA rfl<|Nl<|Wo rfl ‹_›<|Wq<|qW 178 180 rfl<|qE rfl<|qA rfl<|Nl<|Wt rfl ‹_›<|Wd 184 196 (by decide) rfl mixed rfl<|qF rfl ty52 rfl<|qL rfl ty47 rfl<|qF rfl ty52 rfl<|qL rfl ty47 rfl<|Od rfl rfl (Ia rfl rfl rfl rfl ty47 ty61 (by decide))<|qF rfl ty61 rfl<|qL rfl ty22 rfl<|Od rfl rfl (LO.buildSlice rfl ty22 ty3 (by decide) (by decide) (.cons rfl rfl rfl rfl (Sl rfl) .nil))<|Od rfl rfl (Lap rfl rfl (Sso rfl rfl (Tl rfl)) rfl (ints_tk rfl) ty22 ty22 ty3 (by decide) (by omega) (by omega) (by decide))<|Od rfl rfl (Ia rfl rfl rfl rfl ty47 ty61 (by decide))<|qF rfl ty61 rfl<|qS rfl ty22 (Sl rfl) rfl<|Nl ⟨by kernel_rfl,?_⟩
  have hsl:(ps++[99]).length=ps.length + 1:=by simp
  have htk:Tk (intsC ps++intsC [99]) 0 ((ps.length + 1) * 1) (intsC (ps++[99])):=by rw [← intsC_app];exact ints_tk hsl
  refine Wv (q:=4) (j:=1) (r:=192) rfl rfl (by decide) rfl htk (intsC_pure _) (Sl rfl)<|Wv (q:=2) (j:=1) (r:=4) rfl rfl (by decide) rfl (Tl rfl) rfl (Sl rfl)<|W.nilc (q:=2) (j:=10) rfl rfl (Sl rfl) ?_
  rw [← hsl]
  refine Wq<|qW 266 268 rfl<|qG rfl ty52 rfl (Tl rfl)<|qS rfl ty52 (Sl rfl) rfl<|Nl<|Wz ⟨.inl rfl,_,(up mt 0 (some (deckC l b1'))),(Rc (Ra0 rfl rfl ty52 rfl (Tl rfl)) Rv),(aU rfl aM),?_⟩
  exact ⟨⟨og,[(false,ps++[99])],⟨nv,nh,nl⟩,md,pf,-1,cc,cn,lc,ln,[],0⟩,b1',⟨hogb,hmd,(by simp),(by intro s hs;simp at hs;subst hs;show (ps++[99]).length≤10;omega)⟩,rfl,rfl⟩
 ·
  obtain ⟨_,_,hpt2,nx2,rfl,rfl⟩:=port_any 104 v6
  obtain ⟨mv,mh,ml⟩:=nx2
  unfold adC at hpt2
  refine Wq<|qW 128 130 rfl<|qE rfl<|qA rfl<|Nl<|Wo rfl ‹_›<|Wq<|qW 143 145 rfl<|qE rfl<|qA rfl<|Nl<|Wo rfl ‹_›<|Wq<|qW 160 162 rfl<|qE rfl<|qA rfl<|Nl<|Wo rfl ‹_›<|Wq<|qW 178 180 rfl<|qE rfl<|qA rfl<|Nl<|Wo rfl ‹_›<|Wq<|qW 200 202 rfl<|qE rfl<|qA rfl<|Nl<|Wt rfl ‹_›<|qW 206 210 rfl<|qM rfl<|qY rfl (hpt2) fok30 rfl<|qF rfl ty52 rfl<|qS rfl ty44 (Sl rfl) rfl<|Nl<|Wv (q:=4) (j:=1) (r:=3) rfl rfl (by decide) rfl (ints_tk rfl) (intsC_pure _) (Sl rfl)<|Wv (q:=2) (j:=1) (r:=4) rfl rfl (by decide) rfl (Tl rfl) rfl (Sl rfl)<|W.nilc (q:=2) (j:=10) rfl rfl (Sl rfl)<|Wq<|qW 266 268 rfl<|qG rfl ty52 rfl (Tl rfl)<|qS rfl ty52 (Sl rfl) rfl<|Nl<|Wz ⟨.inl rfl,_,(up mt 0 (some (deckC l b1'))),(Rc (Ra0 rfl rfl ty52 rfl (Tl rfl)) Rv),(aU rfl aM),?_⟩
  exact ⟨⟨og,[(false,ps)],⟨mv,mh,ml⟩,md,pf,-1,cc,cn,lc,ln,[],0⟩,b1',⟨hogb,hmd,(by simp),(by intro s hs;simp at hs;subst hs;show ps.length≤10;omega)⟩,rfl,rfl⟩
 ·
  refine Wq<|qW 128 130 rfl<|qE rfl<|qA rfl<|Nl<|Wo rfl ‹_›<|Wq<|qW 143 145 rfl<|qE rfl<|qA rfl<|Nl<|Wo rfl ‹_›<|Wq<|qW 160 162 rfl<|qE rfl<|qA rfl<|Nl<|Wo rfl ‹_›<|Wq<|qW 178 180 rfl<|qE rfl<|qA rfl<|Nl<|Wo rfl ‹_›<|Wq<|qW 200 202 rfl<|qE rfl<|qA rfl<|Nl<|Wo rfl ‹_›<|Wq<|qW 214 216 rfl<|qE rfl<|qA rfl<|Nl<|Wt rfl ‹_›<|Wd 220 232 (by decide) rfl mixed rfl<|qF rfl ty52 rfl<|qL rfl ty47 rfl<|qF rfl ty52 rfl<|qL rfl ty47 rfl<|Od rfl rfl (Ia rfl rfl rfl rfl ty47 ty61 (by decide))<|qF rfl ty61 rfl<|qL rfl ty22 rfl<|Od rfl rfl (LO.buildSlice rfl ty22 ty3 (by decide) (by decide) (.cons rfl rfl rfl rfl (Sl rfl) (.cons rfl rfl rfl rfl (Sl rfl) .nil)))<|Od rfl rfl (Lap rfl rfl (Sso rfl rfl (Tl rfl)) rfl (ints_tk rfl) ty22 ty22 ty3 (by decide) (by omega) (by omega) (by decide))<|Od rfl rfl (Ia rfl rfl rfl rfl ty47 ty61 (by decide))<|qF rfl ty61 rfl<|qS rfl ty22 (Sl rfl) rfl<|Nl ⟨by kernel_rfl,?_⟩
  have hsl:(ps++[64512,701]).length=ps.length + 2:=by simp
  have htk:Tk (intsC ps++intsC [64512,701]) 0 ((ps.length + 2) * 1) (intsC (ps++[64512,701])):=by rw [← intsC_app];exact ints_tk hsl
  refine Wv (q:=4) (j:=1) (r:=228) rfl rfl (by decide) rfl htk (intsC_pure _) (Sl rfl)<|Wv (q:=2) (j:=1) (r:=4) rfl rfl (by decide) rfl (Tl rfl) rfl (Sl rfl)<|W.nilc (q:=2) (j:=10) rfl rfl (Sl rfl) ?_
  rw [← hsl]
  refine Wq<|qW 266 268 rfl<|qG rfl ty52 rfl (Tl rfl)<|qS rfl ty52 (Sl rfl) rfl<|Nl<|Wz ⟨.inl rfl,_,(up mt 0 (some (deckC l b1'))),(Rc (Ra0 rfl rfl ty52 rfl (Tl rfl)) Rv),(aU rfl aM),?_⟩
  exact ⟨⟨og,[(false,ps++[64512,701])],⟨nv,nh,nl⟩,md,pf,-1,cc,cn,lc,ln,[],0⟩,b1',⟨hogb,hmd,(by simp),(by intro s hs;simp at hs;subst hs;show (ps++[64512,701]).length≤10;omega)⟩,rfl,rfl⟩
 ·
  refine Wq<|qW 128 130 rfl<|qE rfl<|qA rfl<|Nl<|Wo rfl ‹_›<|Wq<|qW 143 145 rfl<|qE rfl<|qA rfl<|Nl<|Wo rfl ‹_›<|Wq<|qW 160 162 rfl<|qE rfl<|qA rfl<|Nl<|Wo rfl ‹_›<|Wq<|qW 178 180 rfl<|qE rfl<|qA rfl<|Nl<|Wo rfl ‹_›<|Wq<|qW 200 202 rfl<|qE rfl<|qA rfl<|Nl<|Wo rfl ‹_›<|Wq<|qW 214 216 rfl<|qE rfl<|qA rfl<|Nl<|Wo rfl ‹_›<|Wq<|qW 236 238 rfl<|qE rfl<|qA rfl<|Nl<|Wt rfl ‹_›<|qW 242 244 rfl<|qF rfl ty52 rfl<|qS rfl ty47 (Sl rfl) rfl<|Nl<|W.nilc (q:=2) (j:=1) rfl rfl (Sl rfl)<|W.nilc (q:=2) (j:=10) rfl rfl (Sl rfl)<|Wq<|qW 266 268 rfl<|qG rfl ty52 rfl (Tl rfl)<|qS rfl ty52 (Sl rfl) rfl<|Nl<|Wz ⟨.inl rfl,_,(up mt 0 (some (deckC l b1'))),(Rc (Ra0 rfl rfl ty52 rfl (Tl rfl)) Rv),(aU rfl aM),?_⟩
  exact ⟨⟨og,[],⟨nv,nh,nl⟩,md,pf,-1,cc,cn,lc,ln,[],0⟩,b1',⟨hogb,hmd,(by simp),(by intro s hs;cases hs)⟩,rfl,rfl⟩
 ·
  obtain ⟨a10,ha10⟩:∃ b,nextAt l b1'=b:=⟨_,rfl⟩
  have n10:=next_any l b1' 256 (by decide) (by decide) hl
  obtain ⟨e10,he10⟩:∃ e10,nextV l b1' 256=e10:=⟨_,rfl⟩
  rw [he10,ha10] at n10
  refine Wq<|qW 128 130 rfl<|qE rfl<|qA rfl<|Nl<|Wo rfl ‹_›<|Wq<|qW 143 145 rfl<|qE rfl<|qA rfl<|Nl<|Wo rfl ‹_›<|Wq<|qW 160 162 rfl<|qE rfl<|qA rfl<|Nl<|Wo rfl ‹_›<|Wq<|qW 178 180 rfl<|qE rfl<|qA rfl<|Nl<|Wo rfl ‹_›<|Wq<|qW 200 202 rfl<|qE rfl<|qA rfl<|Nl<|Wo rfl ‹_›<|Wq<|qW 214 216 rfl<|qE rfl<|qA rfl<|Nl<|Wo rfl ‹_›<|Wq<|qW 236 238 rfl<|qE rfl<|qA rfl<|Nl<|Wo rfl ‹_›<|Wq<|qW 248 250 rfl<|qE rfl<|qA rfl<|Nl<|Wt rfl ‹_›<|qW 254 262 rfl<|qM rfl<|Od rfl rfl (C1 (fr:=[]) rfl rfl (n10) fok13 (.own rfl rfl (.cons rfl (.pure rfl) .nil)) rfl rfl rfl (Cn _ _) (by decide) rfl)<|Od rfl rfl (LO.conv rfl rfl ty3 ty5)<|Od rfl rfl (LO.buildSlice rfl ty77 ty5 (by decide) (by decide) (.cons rfl rfl rfl rfl (Sl rfl) (.cons rfl rfl rfl rfl (Sl rfl) .nil)))<|Od rfl rfl (Bs rfl ty79 (.cons rfl rfl rfl rfl (Sl rfl) (.cons rfl rfl rfl rfl (Sl rfl) (.cons rfl rfl rfl rfl (Sl rfl) .nil))))<|Od rfl rfl (LO.buildSlice rfl ty50 ty79 (by decide) (by decide) (.cons rfl rfl rfl rfl (Sl rfl) .nil))<|qF rfl ty52 rfl<|qS rfl ty50 (Sl rfl) rfl<|Nl<|Wv (q:=4) (j:=1) (r:=3) rfl rfl (by decide) rfl (ints_tk rfl) (intsC_pure _) (Sl rfl)<|Wv (q:=2) (j:=1) (r:=4) rfl rfl (by decide) rfl (Tl rfl) rfl (Sl rfl)<|Wv (q:=259) (j:=2) (r:=257) rfl rfl (by decide) rfl (Tl rfl) rfl (Sl rfl)<|Wv (q:=2) (j:=10) (r:=259) rfl rfl (by decide) rfl (Tl rfl) rfl (Sl rfl)<|Wq<|qW 266 268 rfl<|qG rfl ty52 rfl (Tl rfl)<|qS rfl ty52 (Sl rfl) rfl<|Nl<|Wz ⟨.inl rfl,_,(up mt 0 (some (deckC l a10))),(Rc (Ra0 rfl rfl ty52 rfl (Tl rfl)) Rv),(aU rfl aM),?_⟩
  exact ⟨⟨og,[(false,ps)],⟨nv,nh,nl⟩,md,pf,-1,cc,cn,lc,ln,_,_⟩,a10,⟨hogb,hmd,(by simp),(by intro s hs;simp at hs;subst hs;show ps.length≤10;omega)⟩,rfl,rfl⟩
 ·
  refine Wq<|qW 128 130 rfl<|qE rfl<|qA rfl<|Nl<|Wo rfl ‹_›<|Wq<|qW 143 145 rfl<|qE rfl<|qA rfl<|Nl<|Wo rfl ‹_›<|Wq<|qW 160 162 rfl<|qE rfl<|qA rfl<|Nl<|Wo rfl ‹_›<|Wq<|qW 178 180 rfl<|qE rfl<|qA rfl<|Nl<|Wo rfl ‹_›<|Wq<|qW 200 202 rfl<|qE rfl<|qA rfl<|Nl<|Wo rfl ‹_›<|Wq<|qW 214 216 rfl<|qE rfl<|qA rfl<|Nl<|Wo rfl ‹_›<|Wq<|qW 236 238 rfl<|qE rfl<|qA rfl<|Nl<|Wo rfl ‹_›<|Wq<|qW 248 250 rfl<|qE rfl<|qA rfl<|Nl<|Wo rfl ‹_›<|Wu<|Wv (q:=4) (j:=1) (r:=3) rfl rfl (by decide) rfl (ints_tk rfl) (intsC_pure _) (Sl rfl)<|Wv (q:=2) (j:=1) (r:=4) rfl rfl (by decide) rfl (Tl rfl) rfl (Sl rfl)<|W.nilc (q:=2) (j:=10) rfl rfl (Sl rfl)<|Wq<|qW 266 268 rfl<|qG rfl ty52 rfl (Tl rfl)<|qS rfl ty52 (Sl rfl) rfl<|Nl<|Wz ⟨.inl rfl,_,(up mt 0 (some (deckC l b1'))),(Rc (Ra0 rfl rfl ty52 rfl (Tl rfl)) Rv),(aU rfl aM),?_⟩
  exact ⟨⟨og,[(false,ps)],⟨nv,nh,nl⟩,md,pf,-1,cc,cn,lc,ln,[],0⟩,b1',⟨hogb,hmd,(by simp),(by intro s hs;simp at hs;subst hs;show ps.length≤10;omega)⟩,rfl,rfl⟩
end Go.Proofs.Ythbegdeojkdlbaa
