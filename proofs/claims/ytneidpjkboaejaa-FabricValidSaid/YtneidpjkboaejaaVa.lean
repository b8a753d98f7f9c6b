/-
  A fabric with something changed.
-/
import Derived.Test.YtneidpjkboaejaaFg
import Derived.Test.YtneidpjkboaejaaMab
namespace Go.Proofs.Ytneidpjkboaejaa
open Go.RowKit
theorem lnks_tk {l:List Lnk} {n:Nat} (h:l.length=n):Tk (lnksC l) 0 (n * 3) (lnksC l):=tk_all (by rw [lnksC_len,h])
theorem lnksC_app (a b:List Lnk):lnksC (a++b)=lnksC a++lnksC b:=by simp [lnksC]
theorem boolsC_app (a b:List Bool):boolsC (a++b)=boolsC a++boolsC b:=by simp [boolsC]
theorem boolsC_len (l:List Bool):(boolsC l).length=l.length:=by simp [boolsC]
theorem bls_tk {l:List Bool} {n:Nat} (h:l.length=n):Tk (boolsC l) 0 (n * 1) (boolsC l):=tk_all (by rw [boolsC_len,h,Nat.mul_one])
theorem bls_drop {l:List Bool} {k:Nat}:Tk (boolsC l) (k * 1) ((l.length - k) * 1) (boolsC (l.drop k)):=by
 refine ⟨by rw [boolsC_len,List.length_drop,Nat.mul_one],fun j c hj=>?_⟩
 unfold boolsC at hj ⊢
 rw [List.getElem?_map] at hj ⊢
 rw [List.getElem?_drop] at hj
 rwa [Nat.mul_one]
theorem bls_take {l:List Bool} {k:Nat} (h:k≤l.length):Tk (boolsC l) 0 (k * 1) (boolsC (l.take k)):=by
 refine ⟨by rw [boolsC_len,List.length_take,Nat.mul_one];omega,fun j c hj=>?_⟩
 have hlt:=(List.getElem?_eq_some_iff.1 hj).1
 rw [boolsC_len,List.length_take] at hlt
 unfold boolsC at hj ⊢
 rw [List.getElem?_map] at hj ⊢
 rw [List.getElem?_take_of_lt (by omega)] at hj
 rwa [Nat.zero_add]
theorem lnks_set {l:List Lnk} {k:Nat} (h:k < l.length) (x:Lnk):lnksC (l.set k x)=lnksC (l.take k)++(lnkC x++lnksC (l.drop (k + 1))):=by
 rw [List.set_eq_take_append_cons_drop,if_pos h,lnksC_app]
 rfl
theorem lnks_sp {l:List Lnk} {k:Nat} (h:k < l.length) (x:Lnk) (j:Nat) (v:Int) (hj:j < 3) (hx:lnkC x=(lnkC l[k]).set j (.base (.int .i64 v))):Sp (lnksC l) (0 + k * 3 + j) [.base (.int .i64 v)] (lnksC (l.set k x)):=by
 have h1:=lnks_set h l[k]
 rw [List.set_getElem_self] at h1
 rw [lnks_set h,h1,hx]
 have e:(lnksC (l.take k)).length=k * 3:=by rw [lnksC_len,List.length_take,Nat.min_eq_left (by omega)]
 have:=Sp.set (lnksC (l.take k)++(lnkC l[k]++lnksC (l.drop (k + 1)))) (0 + k * 3 + j) (.base (.int .i64 v)) (by
  simp only [List.length_append,e,show (lnkC l[k]).length=3 from rfl];omega)
 rw [List.set_append_right _ _ (by omega),e,show 0 + k * 3 + j - k * 3=j from by omega,List.set_append_left _ _ (by show j < 3;exact hj)] at this
 exact this
theorem six_int (z:Int) {i:Nat} (h:i < 6):∃ v:Int,([.base (.int .i64 (-1)),.base (.int .i64 0),.base (.int .i64 1),.base (.int .i64 z),.base (.int .i64 1048576),.base (.int .i64 1048577)]:List AV)[0 + i * 1]?=some (.base (.int .i64 v)):=by
 rcases (show i=0∨i=1∨i=2∨i=3∨i=4∨i=5 by omega) with rfl|rfl|rfl|rfl|rfl|rfl<;>exact ⟨_,rfl⟩
theorem nat_mod (x:Int) {n:Nat} (h:0 < n):∃ k:Nat,x % (n:Int)=(k:Int)∧k < n:=⟨(x % (n:Int)).toNat,by have:=Int.emod_nonneg x (show (n:Int)≠0 by omega);omega,by have:=Int.emod_lt_of_pos x (show (0:Int) < n by omega);have:=Int.emod_nonneg x (show (n:Int)≠0 by omega);omega⟩
set_option maxHeartbeats 4000000 in
theorem bent_any (f:Fab) (hf:FabOK f) (which by_:Int):∃ v H',AFn Try.prog 7 0 [.agg (fabC f),.base (.int .i64 which),.base (.int .i64 by_)] mt v H'∧∃ g:Fab,g.links.length≤60∧v=.agg (fabC g)∧H'=mt:=by
 refine AFn.ex Try.func7 rfl rfl (Nat.le_of_ble_eq_true rfl) ?_
 have hn:=hf.nlinks
 have hd:=hf.down
 have hs1:=hf.sw1
 have hs7:=hf.sw7
 have hdd:=hf.dead
 obtain ⟨sw,ls,ds,es⟩:=f
 dsimp only at hn hd hs1 hs7 hdd
 have hll:=lnksC_len ls
 by_cases h0:ls.length=0
 ·obtain rfl:ls=[]:=List.length_eq_zero_iff.1 h0
  have hm:=mod_any by_ 3 (by decide) (by decide)
  show W _ _ _ _ _ _ _ _
  rw [show fabC ⟨sw,[],ds,es⟩=[.base (.int .i64 sw),.isl [] 0,.isl (boolsC ds) ds.length,.isl (boolsC es) es.length] from rfl]
  refine Wq<|qW 0 2 rfl<|qC rfl<|qB rfl ty25<|Nl<|Wq<|qW 6 11 rfl<|qF rfl ty25 rfl<|qL rfl ty22 rfl<|Od rfl rfl (Lan rfl rfl (Ssi rfl rfl rfl) ty22 ty22 ty38 (by decide) (by omega) (by omega) (by decide))<|qF rfl ty25 rfl<|qS rfl ty22 (Sl rfl) rfl<|Nl<|Wq<|Wq<|qW 15 19 rfl<|qF rfl ty25 rfl<|qL rfl ty22 rfl<|Od rfl rfl (LO.len rfl rfl ty22)<|qE rfl<|Nl<|Wt rfl rfl<|Wq<|qW 23 29 rfl<|qM rfl<|qY rfl (hm) fok10 rfl<|Od rfl rfl (Bs rfl ty38 (.cons rfl rfl rfl rfl (Sl rfl) (.cons rfl rfl rfl rfl (Sl rfl) (.cons rfl rfl rfl rfl (Sl rfl) .nil))))<|Od rfl rfl (LO.buildSlice rfl ty22 ty38 (by decide) (by decide) (.cons rfl rfl rfl rfl (Sl rfl) .nil))<|qF rfl ty25 rfl<|qS rfl ty22 (Sl rfl) rfl<|Nl<|Wq<|qW 33 36 rfl<|Od rfl rfl (LO.buildSlice rfl ty23 ty4 (by decide) (by decide) (.cons rfl rfl rfl rfl (Sl rfl) .nil))<|qF rfl ty25 rfl<|qS rfl ty23 (Sl rfl) rfl<|Nl<|Wv (q:=0) (j:=1) (r:=26) rfl rfl (by decide) rfl (Tl rfl) rfl (Sl rfl)<|Wv (q:=0) (j:=2) (r:=33) rfl rfl (by decide) rfl (Tl rfl) rfl (Sl rfl)<|Wq<|qW 40 42 rfl<|qG rfl ty25 rfl (Tl rfl)<|qS rfl ty25 (Sl rfl) rfl<|Nl<|Wz ⟨.inl rfl,_,mt,(Rc (Ra0 rfl rfl ty25 rfl (Tl rfl)) Rv),aM,?_⟩
  exact ⟨⟨sw,[⟨0,by_ % 3,1⟩],[false],es⟩,(show (1:Nat)≤60 by decide),rfl,rfl⟩
 obtain ⟨kn,hk1,hk2⟩:=nat_mod by_ (n:=ls.length) (by omega)
 have hm1:=mod_any by_ (ls.length:Int) (by omega) (by omega)
 rw [hk1] at hm1
 obtain ⟨k6,hk3,hk4⟩:=nat_mod (IntKind.i64.wrap (by_.tdiv 8)) (n:=6) (by decide)
 have hm2:=mod_any (IntKind.i64.wrap (by_.tdiv 8)) 6 (by decide) (by decide)
 rw [show IntKind.i64.wrap (by_.tdiv 8) % 6=(k6:Int) from hk3] at hm2
 obtain ⟨vv,hvv⟩:=six_int sw hk4
 have hm3:=mod_any which 7 (by decide) (by decide)
 have hw:0≤which % 7∧which % 7 < 7:=by omega
 generalize which % 7=w at *
 have g0:((ls.length:Int) == 0)=false:=by simpa using (show (ls.length:Int)≠0 by omega)
 have hpA:=fun v=>lnks_sp hk2 ⟨v,ls[kn].b,ls[kn].c⟩ 0 v (by decide) rfl
 have hpB:=fun v=>lnks_sp hk2 ⟨ls[kn].a,v,ls[kn].c⟩ 1 v (by decide) rfl
 have hpC:=fun v=>lnks_sp hk2 ⟨ls[kn].a,ls[kn].b,v⟩ 2 v (by decide) rfl
 have hset:∀ x,(ls.set kn x).length=ls.length:=fun x=>List.length_set
 obtain ⟨xl,hxl⟩:∃ xl,xl=ls[kn]:=⟨_,rfl⟩
 rw [← hxl] at hpA hpB hpC
 clear hk1 hk3 hxl
 unfold fabC
 dsimp only
 generalize hn':ls.length=n at *
 refine Wq<|qW 0 2 rfl<|qC rfl<|qB rfl ty25<|Nl<|Wq<|qW 6 11 rfl<|qF rfl ty25 rfl<|qL rfl ty22 rfl<|Od rfl rfl (Lan rfl rfl (Ssi rfl rfl ‹_›) ty22 ty22 ty38 (by decide) (by omega) (by omega) (by decide))<|qF rfl ty25 rfl<|qS rfl ty22 (Sl rfl) rfl<|Nl<|Wq<|Wq<|qW 15 19 rfl<|qF rfl ty25 rfl<|qL rfl ty22 rfl<|Od rfl rfl (LO.len rfl rfl ty22)<|qE rfl<|Nl<|Wo rfl ‹_›<|Wu<|Wq<|Wd 46 55 (by decide) rfl mixed rfl<|qF rfl ty25 rfl<|qL rfl ty22 rfl<|qM rfl<|qF rfl ty25 rfl<|qL rfl ty22 rfl<|Od rfl rfl (LO.len rfl rfl ty22)<|qY rfl (hm1) fok10 rfl<|Od rfl rfl (Ia rfl rfl rfl rfl ty22 ty38 (by omega))<|qA rfl<|Nl ⟨by kernel_rfl,(Wq<|Wd 59 68 (by decide) rfl mixed rfl<|qF rfl ty25 rfl<|qL rfl ty3 rfl<|Od rfl rfl (LO.buildSlice rfl ty26 ty3 (by decide) (by decide) (.cons rfl rfl rfl rfl (Sl rfl) (.cons rfl rfl rfl rfl (Sl rfl) (.cons rfl rfl rfl rfl (Sl rfl) (.cons rfl rfl rfl rfl (Sl rfl) (.cons rfl rfl rfl rfl (Sl rfl) (.cons rfl rfl rfl rfl (Sl rfl) .nil)))))))<|qM rfl<|Od rfl rfl (LO.quo rfl rfl rfl (by omega))<|qY rfl (hm2) fok10 rfl<|Od rfl rfl (Ia rfl rfl rfl rfl ty26 ty3 (by omega))<|Od rfl rfl (Ld rfl rfl rfl hvv ty3 rfl)<|qA rfl<|Nl ⟨by kernel_rfl,(Wq<|Wq<|qW 72 74 rfl<|qM rfl<|qY rfl (hm3) fok10 rfl<|Nl<|W.joinK (α:=Fab) 2 (fun x=>[(3,.own 0 0),(6,.own 1 0)]) (fun x=>up (up mt 0 (some (fabC x))) 1 (some ([.base (.int .i64 0),.nils,.nils,.nils]))) (fun x=>x.links.length≤60) .nil ?_ ?_)⟩)⟩
 rotate_left
 rintro g hIJ
 try (dsimp only at hIJ)
 try dsimp only [joinT,baseT,List.cons_append,List.nil_append]
 rotate_right
 ·
  by_cases c0:w=0
  ·have e0:(w == 0)=true:=by simpa using c0
   refine Wb<|Wq<|qW 78 80 rfl<|qE rfl<|qA rfl<|Nl<|Wt rfl ‹_›<|qW 84 89 rfl<|qM rfl<|qM rfl<|Od rfl rfl (Nc rfl rfl)<|qF rfl ty38 rfl<|qS rfl ty3 (hpA vv) rfl<|Nl ?_
   intro yJ KJ hJ
   refine Wv (q:=0) (j:=1) (r:=8) rfl rfl (by decide) rfl (lnks_tk (hset _)) (lnksC_pure _) (Sl rfl) ?_
   rw [← hset ⟨vv,xl.b,xl.c⟩]
   refine W.renameJ [(0,0),(1,1)] 2 (by decide) ?_ ?_ (hJ ((⟨sw,ls.set kn ⟨vv,xl.b,xl.c⟩,ds,es⟩:Fab)) (show ((⟨sw,ls.set kn ⟨vv,xl.b,xl.c⟩,ds,es⟩:Fab)).links.length≤60 from by dsimp only;rw [List.length_set];omega))
   ·exact lC (lI rfl) (lC (lI rfl) lN)
   ·exact aU (kR rfl) (aU (kR rfl) aM)
  have e0:(w == 0)=false:=by simpa using c0
  by_cases c1:w=1
  ·have e1:(w == 1)=true:=by simpa using c1
   refine Wb<|Wq<|qW 78 80 rfl<|qE rfl<|qA rfl<|Nl<|Wo rfl ‹_›<|Wq<|qW 93 95 rfl<|qE rfl<|qA rfl<|Nl<|Wt rfl ‹_›<|qW 99 104 rfl<|qM rfl<|qM rfl<|Od rfl rfl (Nc rfl rfl)<|qF rfl ty38 rfl<|qS rfl ty3 (hpB vv) rfl<|Nl ?_
   intro yJ KJ hJ
   refine Wv (q:=0) (j:=1) (r:=8) rfl rfl (by decide) rfl (lnks_tk (hset _)) (lnksC_pure _) (Sl rfl) ?_
   rw [← hset ⟨xl.a,vv,xl.c⟩]
   refine W.renameJ [(0,0),(1,1)] 2 (by decide) ?_ ?_ (hJ ((⟨sw,ls.set kn ⟨xl.a,vv,xl.c⟩,ds,es⟩:Fab)) (show ((⟨sw,ls.set kn ⟨xl.a,vv,xl.c⟩,ds,es⟩:Fab)).links.length≤60 from by dsimp only;rw [List.length_set];omega))
   ·exact lC (lI rfl) (lC (lI rfl) lN)
   ·exact aU (kR rfl) (aU (kR rfl) aM)
  have e1:(w == 1)=false:=by simpa using c1
  by_cases c2:w=2
  ·have e2:(w == 2)=true:=by simpa using c2
   refine Wb<|Wq<|qW 78 80 rfl<|qE rfl<|qA rfl<|Nl<|Wo rfl ‹_›<|Wq<|qW 93 95 rfl<|qE rfl<|qA rfl<|Nl<|Wo rfl ‹_›<|Wq<|qW 108 110 rfl<|qE rfl<|qA rfl<|Nl<|Wt rfl ‹_›<|qW 114 119 rfl<|qM rfl<|qM rfl<|Od rfl rfl (Nc rfl rfl)<|qF rfl ty38 rfl<|qS rfl ty3 (hpC vv) rfl<|Nl ?_
   intro yJ KJ hJ
   refine Wv (q:=0) (j:=1) (r:=8) rfl rfl (by decide) rfl (lnks_tk (hset _)) (lnksC_pure _) (Sl rfl) ?_
   rw [← hset ⟨xl.a,xl.b,vv⟩]
   refine W.renameJ [(0,0),(1,1)] 2 (by decide) ?_ ?_ (hJ ((⟨sw,ls.set kn ⟨xl.a,xl.b,vv⟩,ds,es⟩:Fab)) (show ((⟨sw,ls.set kn ⟨xl.a,xl.b,vv⟩,ds,es⟩:Fab)).links.length≤60 from by dsimp only;rw [List.length_set];omega))
   ·exact lC (lI rfl) (lC (lI rfl) lN)
   ·exact aU (kR rfl) (aU (kR rfl) aM)
  have e2:(w == 2)=false:=by simpa using c2
  by_cases c3:w=3
  ·have e3:(w == 3)=true:=by simpa using c3
   refine Wb<|Wq<|qW 78 80 rfl<|qE rfl<|qA rfl<|Nl<|Wo rfl ‹_›<|Wq<|qW 93 95 rfl<|qE rfl<|qA rfl<|Nl<|Wo rfl ‹_›<|Wq<|qW 108 110 rfl<|qE rfl<|qA rfl<|Nl<|Wo rfl ‹_›<|Wq<|qW 123 125 rfl<|qE rfl<|qA rfl<|Nl<|Wt rfl ‹_›<|qW 129 132 rfl<|qM rfl<|qF rfl ty25 rfl<|qS rfl ty3 (Sl rfl) rfl<|Nl ?_
   intro yJ KJ hJ
   refine Wv (q:=0) (j:=1) (r:=8) rfl rfl (by decide) rfl (lnks_tk hn') (lnksC_pure _) (Sl rfl) ?_
   rw [← hn']
   refine W.renameJ [(0,0),(1,1)] 2 (by decide) ?_ ?_ (hJ ((⟨vv,ls,ds,es⟩:Fab)) (show ((⟨vv,ls,ds,es⟩:Fab)).links.length≤60 from by dsimp only;omega))
   ·exact lC (lI rfl) (lC (lI rfl) lN)
   ·exact aU (kR rfl) (aU (kR rfl) aM)
  have e3:(w == 3)=false:=by simpa using c3
  by_cases c4:w=4
  ·have e4:(w == 4)=true:=by simpa using c4
   refine Wb<|Wq<|qW 78 80 rfl<|qE rfl<|qA rfl<|Nl<|Wo rfl ‹_›<|Wq<|qW 93 95 rfl<|qE rfl<|qA rfl<|Nl<|Wo rfl ‹_›<|Wq<|qW 108 110 rfl<|qE rfl<|qA rfl<|Nl<|Wo rfl ‹_›<|Wq<|qW 123 125 rfl<|qE rfl<|qA rfl<|Nl<|Wo rfl ‹_›<|Wq<|qW 136 138 rfl<|qE rfl<|qA rfl<|Nl<|Wt rfl ‹_›<|qW 142 147 rfl<|qF rfl ty25 rfl<|qL rfl ty23 rfl<|Od rfl rfl (Lsi rfl rfl rfl (Ba rfl rfl) Bnd.no (by simp;omega) (by omega) ty23 ty4 bls_drop)<|qF rfl ty25 rfl<|qS rfl ty23 (Sl rfl) rfl<|Nl ?_
   intro yJ KJ hJ
   refine Wv (q:=0) (j:=1) (r:=8) rfl rfl (by decide) rfl (lnks_tk hn') (lnksC_pure _) (Sl rfl) ?_
   rw [← hn',show ds.length - 1=(ds.drop 1).length from by rw [List.length_drop]]
   refine W.renameJ [(0,0),(1,1)] 2 (by decide) ?_ ?_ (hJ ((⟨sw,ls,ds.drop 1,es⟩:Fab)) (show ((⟨sw,ls,ds.drop 1,es⟩:Fab)).links.length≤60 from by dsimp only;omega))
   ·exact lC (lI rfl) (lC (lI rfl) lN)
   ·exact aU (kR rfl) (aU (kR rfl) aM)
  have e4:(w == 4)=false:=by simpa using c4
  by_cases c5:w=5
  ·have e5:(w == 5)=true:=by simpa using c5
   have hes:1≤es.length:=by omega
   have hbt:Tk (boolsC es) 0 ((es.length - 1 - 0) * 1) (boolsC (es.take (es.length - 1))):=bls_take (k:=es.length - 1) (by omega)
   have he5:(es.length:Int) - 1=((es.length - 1:Nat):Int):=by omega
   refine Wb<|Wq<|qW 78 80 rfl<|qE rfl<|qA rfl<|Nl<|Wo rfl ‹_›<|Wq<|qW 93 95 rfl<|qE rfl<|qA rfl<|Nl<|Wo rfl ‹_›<|Wq<|qW 108 110 rfl<|qE rfl<|qA rfl<|Nl<|Wo rfl ‹_›<|Wq<|qW 123 125 rfl<|qE rfl<|qA rfl<|Nl<|Wo rfl ‹_›<|Wq<|qW 136 138 rfl<|qE rfl<|qA rfl<|Nl<|Wo rfl ‹_›<|Wq<|qW 151 153 rfl<|qE rfl<|qA rfl<|Nl<|Wt rfl ‹_›<|qW 157 166 rfl<|qF rfl ty25 rfl<|qL rfl ty23 rfl<|qF rfl ty25 rfl<|qL rfl ty23 rfl<|qH rfl ty23<|Od rfl rfl (LO.sub_in rfl rfl rfl (iW _ (by omega)))<|Od rfl rfl (Lsi rfl rfl rfl Bnd.no (Ba rfl he5) (by omega) (by omega) ty23 ty4 hbt)<|qF rfl ty25 rfl<|qS rfl ty23 (Sl rfl) rfl<|Nl ?_
   intro yJ KJ hJ
   refine Wv (q:=0) (j:=1) (r:=8) rfl rfl (by decide) rfl (lnks_tk hn') (lnksC_pure _) (Sl rfl) ?_
   rw [← hn',show es.length - 1 - 0=(es.take (es.length - 1)).length from by rw [List.length_take];omega]
   refine W.renameJ [(0,0),(1,1)] 2 (by decide) ?_ ?_ (hJ ((⟨sw,ls,ds,es.take (es.length - 1)⟩:Fab)) (show ((⟨sw,ls,ds,es.take (es.length - 1)⟩:Fab)).links.length≤60 from by dsimp only;omega))
   ·exact lC (lI rfl) (lC (lI rfl) lN)
   ·exact aU (kR rfl) (aU (kR rfl) aM)
  have e5:(w == 5)=false:=by simpa using c5
  have hpre:Tk (lnksC ls++lnksC ls) 0 (n * 3) (lnksC ls):=⟨hll,fun j c hj=>by
   rw [Nat.zero_add,List.getElem?_append_left (List.getElem?_eq_some_iff.1 hj).1]
   exact hj⟩
  have hv2:Tk (lnksC ls++lnksC ls) 0 ((n + n) * 3) (lnksC ls++lnksC ls):=tk_all (by rw [List.length_append,hll];omega)
  have hv3:Tk (lnksC ls++lnksC ls++lnksC ls) 0 ((n + n + n) * 3) (lnksC ls++lnksC ls++lnksC ls):=tk_all (by simp only [List.length_append,hll];omega)
  have hp3:(lnksC ls++lnksC ls++lnksC ls).all AV.pure1=true:=by simp only [List.all_append,lnksC_pure,Bool.and_self]
  have hdl:=boolsC_len ds
  have b1:Tk (boolsC ds) 0 (ds.length * 1) (boolsC ds):=bls_tk rfl
  have b2:Tk (boolsC ds++boolsC ds) 0 ((ds.length + ds.length) * 1) (boolsC ds++boolsC ds):=tk_all (by rw [List.length_append,hdl];omega)
  have b3:Tk (boolsC ds++boolsC ds++boolsC ds) 0 ((ds.length + ds.length + ds.length) * 1) (boolsC ds++boolsC ds++boolsC ds):=tk_all (by simp only [List.length_append,hdl];omega)
  have bp:(boolsC ds++boolsC ds++boolsC ds).all AV.pure1=true:=by simp only [List.all_append,boolsC_pure,Bool.and_self]
  have hd1:(boolsC ds).length=ds.length * 1:=by rw [hdl,Nat.mul_one]
  refine Wb<|Wq<|qW 78 80 rfl<|qE rfl<|qA rfl<|Nl<|Wo rfl ‹_›<|Wq<|qW 93 95 rfl<|qE rfl<|qA rfl<|Nl<|Wo rfl ‹_›<|Wq<|qW 108 110 rfl<|qE rfl<|qA rfl<|Nl<|Wo rfl ‹_›<|Wq<|qW 123 125 rfl<|qE rfl<|qA rfl<|Nl<|Wo rfl ‹_›<|Wq<|qW 136 138 rfl<|qE rfl<|qA rfl<|Nl<|Wo rfl ‹_›<|Wq<|qW 151 153 rfl<|qE rfl<|qA rfl<|Nl<|Wo rfl ‹_›<|Wd 170 191 (by decide) rfl mixed rfl<|qF rfl ty25 rfl<|qL rfl ty22 rfl<|qF rfl ty25 rfl<|qL rfl ty22 rfl<|Od rfl rfl (LO.append_self rfl rfl rfl rfl hll (lnksC_pure _) ty22 ty22 ty38 (by decide) (by omega) (by omega) (by decide) (by omega))<|qF rfl ty25 rfl<|qL rfl ty22 rfl<|Od rfl rfl (LO.append_app rfl (fun h=>by injection h with h;cases h) rfl rfl rfl hv2 hpre (by omega) ty22 ty22 ty38 (by decide) (by omega) (by omega) (by decide)) (qF rfl ty25 rfl<|qL rfl ty23 rfl<|Od rfl rfl (Lan rfl rfl (Ssi rfl rfl hd1) ty23 ty23 ty4 (by decide) (by omega) (by omega) (by decide))<|qF rfl ty25 rfl<|qL rfl ty23 rfl<|Od rfl rfl (Lap rfl rfl (Ssi rfl rfl hd1) rfl b1 ty23 ty23 ty4 (by decide) (by omega) (by omega) (by decide))<|qF rfl ty25 rfl<|qL rfl ty23 rfl<|Od rfl rfl (Lap rfl rfl (Ssi rfl rfl hd1) rfl b2 ty23 ty23 ty4 (by decide) (by omega) (by omega) (by decide))<|qF rfl ty25 rfl<|qS rfl ty22 (Sl rfl) rfl<|qF rfl ty25 rfl<|qS rfl ty23 (Sl rfl) rfl<|Nl ⟨by kernel_rfl,?_⟩)
  intro yJ KJ hJ
  refine Wv (q:=0) (j:=1) (r:=177) rfl rfl (by decide) rfl hv3 hp3 (Sl rfl)<|Wv (q:=0) (j:=2) (r:=186) rfl rfl (by decide) rfl b3 bp (Sl rfl) ?_
  rw [← lnksC_app,← lnksC_app,← boolsC_app,← boolsC_app,show n + n + n=(ls++ls++ls).length from by simp only [List.length_append];omega,show ds.length + ds.length + ds.length=(ds++ds++ds).length from by simp only [List.length_append]]
  refine W.renameJ [(0,0),(1,1)] 2 (by decide) ?_ ?_ (hJ ((⟨sw,ls++ls++ls,ds++ds++ds,es⟩:Fab)) (show ((⟨sw,ls++ls++ls,ds++ds++ds,es⟩:Fab)).links.length≤60 from by dsimp only;simp only [List.length_append];omega))
  ·exact lC (lI rfl) (lC (lI rfl) lN)
  ·exact aU (kR rfl) (aU (kR rfl) aM)
 refine Wq<|qW 195 197 rfl<|qG rfl ty25 rfl (Tl rfl)<|qS rfl ty25 (Sl rfl) rfl<|Nl<|Wz ⟨.inl rfl,_,mt,(Rc (Ra0 rfl rfl ty25 rfl (Tl rfl)) Rv),aM,?_⟩
 exact ⟨g,hIJ,rfl,rfl⟩
end Go.Proofs.Ytneidpjkboaejaa
