/-
  The ports of a database, the owner of one. The document's rules of the ports.
-/
import Derived.Test.YtlcndmciognneaaGreatDoorJg
import Derived.Test.YtlcndmciognneaaGreatDoorMab
namespace Go.Proofs.YtlcndmciognneaaGreatDoor
open Go.RowKit
theorem macsC_len {l:List (List Int)} (h:∀ m,m∈l→m.length=6):(macsC l).length=l.length * 6:=by
 induction l with
 | nil=>rfl
 | cons x l ih=>rw [show macsC (x::l)=bytesC x++macsC l from rfl,List.length_append,ih (fun m hm=>h m (by simp [hm])),bytesC_len,h x (by simp),List.length_cons];omega
theorem macsC_pure (l:List (List Int)):(macsC l).all AV.pure1=true:=flatPure (fun m=>bytesC_pure m) l
theorem macs_all {l:List (List Int)} (h:∀ m,m∈l→m.length=6):Tk (macsC l) 0 (l.length * 6) (macsC l):=by
 have:=Tk.all (macsC l)
 rwa [macsC_len h] at this
theorem prtsC_pure (l:List Prt):(prtsC l).all AV.pure1=true:=flatPure (fun _=>rfl) l
theorem prts_all {l:List Prt} {n:Nat} (h:l.length=n):Tk (prtsC l) 0 (n * 10) (prtsC l):=flatAll (c:=prtC) (fun _=>rfl) h
theorem copyPort_any (p:Prt) (hm:∀ m,m∈p.macs→m.length=6) (hn:p.macs.length≤1000):AFn Tryz.prog 136 0 [.agg (prtC p)] mt (.agg (prtC p)) mt:=by
 refine AFn.eq Tryz.func136 rfl rfl (Nat.le_of_ble_eq_true rfl) ?_
 obtain ⟨id,sw,sp,ms,v4,v6⟩:=p
 dsimp only at hm hn
 have hl:=macsC_len hm
 refine Wq<|qW 0 2 rfl<|qC rfl<|qB rfl ty157<|Nl<|Wq<|qW 6 11 rfl<|qF rfl ty157 rfl<|qL rfl ty36 rfl<|Od rfl rfl (Lan rfl rfl (Ssi rfl rfl hl) ty36 ty36 ty23 (by decide) (by dsimp only;omega) (by dsimp only;omega) (by decide))<|qF rfl ty157 rfl<|qS rfl ty36 (Sl rfl) rfl<|Nl<|Wv (q:=0) (j:=3) (r:=8) rfl rfl (by decide) rfl (macs_all hm) (macsC_pure _) (Sl rfl)<|Wq<|qW 15 17 rfl<|qG rfl ty157 rfl (Tl rfl)<|qS rfl ty157 (Sl rfl) rfl<|Nl<|Wz ⟨.inl rfl,_,mt,(Rc (Ra0 rfl rfl ty157 rfl (Tl rfl)) Rv),aM,?_⟩
 exact ⟨rfl,rfl⟩
def selP (L:List Prt) (n:Nat):List Prt:=L.filter fun p=>p.id == (n:Int)
def portsOf (d:Db):List Prt:=(List.range 1000).flatMap (selP (allP d))
theorem selP_app (a b:List Prt) (n:Nat):selP (a++b) n=selP a n++selP b n:=List.filter_append ..
set_option maxHeartbeats 1000000 in
theorem ports_any (d:Db) (hd:DbOk d) (hs:(portsOf d).length≤1000):AFn Tryz.prog 92 0 [.agg (dbC d)] mt (.isl (prtsC (portsOf d)) (portsOf d).length) mt:=by
 refine AFn.eq Tryz.func92 rfl rfl (Nat.le_of_ble_eq_true rfl) ?_
 have h4:=hd.ns
 have h32:=hd.nm
 have hmem:=hd.mem
 have hall:=all_any d (by omega) (by omega)
 unfold portsOf allP at hs ⊢
 obtain ⟨A,hA⟩:∃ A,A=d.servers++d.members:=⟨_,rfl⟩
 rw [← hA] at hall hmem hs ⊢
 obtain ⟨Z,hZ⟩:∃ Z,Z=A.flatMap (·.ports):=⟨_,rfl⟩
 rw [← hZ] at hs ⊢
 have hAl:A.length≤2000:=by rw [hA,List.length_append];omega
 refine Wq<|qW 0 2 rfl<|qC rfl<|qA rfl<|Nl<|Wq<|qW 6 7 rfl<|qA rfl<|Nl<|Wq<|Wq<|qW 11 12 rfl<|qA rfl<|Nl<|W.name 12 (12 + 1) (t:=3) (sz:=10) rfl (by decide) (by decide)<|Wb<|W.rename [(0,0),(1,12)] 2 (T':=up (up (up mt 1 (some (.own 0 0))) 3 (some (.osl 1 0 ((List.range 0).flatMap (selP Z)).length 10))) 4 (some (.base (.int .i64 (0:Int))))) (H':=up (up mt 0 (some (dbC d))) 1 (some (prtsC ((List.range 0).flatMap (selP Z))))) (by decide) ?_ ?_ ?_
 ·exact aU (lR rfl) (aU (lI rfl) (aU (lI rfl) aM))
 ·exact aU (kR rfl) (aU (kR rfl) aM)
 refine W.loop_ind (α:=Nat) (fun x=>1000 - x) 2 (fun x=>up (up (up mt 1 (some (.own 0 0))) 3 (some (.osl 1 0 ((List.range x).flatMap (selP Z)).length 10))) 4 (some (.base (.int .i64 (x:Int))))) (fun x=>up (up mt 0 (some (dbC d))) 1 (some (prtsC ((List.range x).flatMap (selP Z))))) (fun x=>x≤1000) 0 (show 0≤1000 from Nat.zero_le _) ?_
 rintro n hIA ihA
 try (dsimp only at hIA)
 try dsimp only
 by_cases hc:n < 1000
 ·have g1:decide ((n:Int)≤999)=true:=decide_eq_true (by omega)
  have hpre:∀ X Y:List Prt,selP Z n=X++Y→((List.range n).flatMap (selP Z)++X).length≤1000:=fun X Y e=>by
   obtain ⟨k,hk⟩:∃ k,1000=n + 1 + k:=⟨1000 - (n + 1),by omega⟩
   rw [hk,List.range_add,List.flatMap_append,List.range_succ,List.flatMap_append] at hs
   simp only [List.flatMap_cons,List.flatMap_nil,List.append_nil,e,List.length_append] at hs ⊢
   omega
  have hnext:(List.range n).flatMap (selP Z)++selP Z n=(List.range (n + 1)).flatMap (selP Z):=by
   rw [List.range_succ,List.flatMap_append];simp
  generalize (List.range n).flatMap (selP Z)=R at *
  refine Wq<|Wq<|qW 16 18 rfl<|qM rfl<|qLe rfl<|Nl<|Wt rfl ‹_›<|Wu<|Wq<|Wb<|Wq<|qW 22 26 rfl<|qG rfl ty105 rfl (Tl rfl)<|qY rfl (hall) fok135 rfl<|qH rfl ty103<|qM rfl<|Nl ?_
  rw [show R=R++selP ((A.take 0).flatMap (·.ports)) n from by simp [selP]]
  refine Wb<|W.rename [(0,0),(1,1)] 2 (T':=up (up (up (up (up (up mt 1 (some (.own 0 0))) 3 (some (.osl 1 0 (R++selP ((A.take 0).flatMap (·.ports)) n).length 10))) 4 (some (.base (.int .i64 (n:Int))))) 14 (some (.isl (memsC A) A.length))) 15 (some (.base (.int .i64 (A.length:Int))))) 16 (some (.base (.int .i64 (0:Int))))) (H':=up (up mt 0 (some (dbC d))) 1 (some (prtsC (R++selP ((A.take 0).flatMap (·.ports)) n)))) (by decide) ?_ ?_ ?_
  ·exact aU (lR rfl) (aU (lR rfl) (aU (lR rfl) (aU (lR rfl) (aU (lI rfl) (aU (lI rfl) aM)))))
  ·exact aU (kP rfl (prtsC_pure _)) (aU (kR rfl) aM)
  refine W.loop_ind (α:=Nat) (fun x=>A.length - x) 2 (fun x=>up (up (up (up (up (up mt 1 (some (.own 0 0))) 3 (some (.osl 1 0 (R++selP ((A.take x).flatMap (·.ports)) n).length 10))) 4 (some (.base (.int .i64 (n:Int))))) 14 (some (.isl (memsC A) A.length))) 15 (some (.base (.int .i64 (A.length:Int))))) 16 (some (.base (.int .i64 (x:Int))))) (fun x=>up (up mt 0 (some (dbC d))) 1 (some (prtsC (R++selP ((A.take x).flatMap (·.ports)) n)))) (fun x=>x≤A.length) 0 (show 0≤A.length from Nat.zero_le _) ?_
  rintro i hIB ihB
  try (dsimp only at hIB)
  try dsimp only
  by_cases hc2:i < A.length
  ·have g2:decide ((i:Int) < (A.length:Int))=true:=decide_eq_true (by omega)
   have hm:=hmem _ (List.getElem_mem hc2)
   have hps:=hm.ports
   have hnp:=hm.np
   have hfl:(A.take (i + 1)).flatMap (·.ports)=(A.take i).flatMap (·.ports)++A[i].ports:=by
    rw [List.take_add_one,List.flatMap_append]
    simp [hc2]
   have hsp:∃ Y,Z=((A.take i).flatMap (·.ports)++A[i].ports)++Y:=⟨(A.drop (i + 1)).flatMap (·.ports),by
    rw [hZ,← hfl,← List.flatMap_append,List.take_append_drop]⟩
   obtain ⟨Y,hsp⟩:=hsp
   refine Wq<|qW 30 31 rfl<|qK rfl<|Nl<|Wq<|Wt rfl ‹_›<|Wu<|Wq<|Wb<|Wq<|qW 35 39 rfl<|qJ rfl rfl ty103 ty150 (by omega)<|Od rfl rfl (Lg rfl rfl ty150 rfl (mems_tk hc2))<|qB rfl ty150<|qS rfl ty150 (Sl rfl) rfl<|Nl<|Wq<|qW 43 47 rfl<|qF rfl ty150 rfl<|qL rfl ty148 rfl<|qH rfl ty148<|qM rfl<|Nl ?_
   generalize A[i].ports=ps at *
   generalize (A.take i).flatMap (·.ports)=X at *
   rw [show X=X++ps.take 0 from by simp]
   refine Wb<|W.rename [(0,0),(1,1)] 2 (T':=up (up (up (up (up (up (up (up (up mt 1 (some (.own 0 0))) 3 (some (.osl 1 0 (R++selP (X++ps.take 0) n).length 10))) 4 (some (.base (.int .i64 (n:Int))))) 14 (some (.isl (memsC A) A.length))) 15 (some (.base (.int .i64 (A.length:Int))))) 16 (some (.base (.int .i64 (i:Int))))) 21 (some (.isl (prtsC ps) ps.length))) 22 (some (.base (.int .i64 (ps.length:Int))))) 23 (some (.base (.int .i64 (0:Int))))) (H':=up (up mt 0 (some (dbC d))) 1 (some (prtsC (R++selP (X++ps.take 0) n)))) (by decide) ?_ ?_ ?_
   ·exact aU (lR rfl) (aU (lR rfl) (aU (lR rfl) (aU (lR rfl) (aU (lR rfl) (aU (lR rfl) (aU (lR rfl) (aU (lI rfl) (aU (lI rfl) aM))))))))
   ·exact aU (kP rfl (prtsC_pure _)) (aU (kR rfl) aM)
   refine W.loop_ind (α:=Nat) (fun x=>ps.length - x) 2 (fun x=>up (up (up (up (up (up (up (up (up mt 1 (some (.own 0 0))) 3 (some (.osl 1 0 (R++selP (X++ps.take x) n).length 10))) 4 (some (.base (.int .i64 (n:Int))))) 14 (some (.isl (memsC A) A.length))) 15 (some (.base (.int .i64 (A.length:Int))))) 16 (some (.base (.int .i64 (i:Int))))) 21 (some (.isl (prtsC ps) ps.length))) 22 (some (.base (.int .i64 (ps.length:Int))))) 23 (some (.base (.int .i64 (x:Int))))) (fun x=>up (up mt 0 (some (dbC d))) 1 (some (prtsC (R++selP (X++ps.take x) n)))) (fun x=>x≤ps.length) 0 (show 0≤ps.length from Nat.zero_le _) ?_
   rintro j hIC ihC
   try (dsimp only at hIC)
   try dsimp only
   by_cases hc3:j < ps.length
   ·have g3:decide ((j:Int) < (ps.length:Int))=true:=decide_eq_true (by omega)
    have hQ:X++ps.take (j + 1)=(X++ps.take j)++[ps[j]]:=by rw [List.take_add_one,← List.append_assoc];simp [hc3]
    have hlen:(R++selP (X++ps.take (j + 1)) n).length≤1000:=hpre _ (selP (ps.drop (j + 1)++Y) n) (by
     rw [← selP_app,hsp]
     congr 1
     conv=>lhs;rw [← List.take_append_drop (j + 1) ps]
     simp only [List.append_assoc])
    have hpo:=hps _ (List.getElem_mem hc3)
    have hcp:=copyPort_any ps[j] (fun m h=>(hpo.macs m h).1) (by have:=hpo.nm;omega)
    rw [hQ] at hlen
    refine Wq<|qW 51 52 rfl<|qK rfl<|Nl<|Wq<|Wt rfl ‹_›<|Wu<|Wq<|Wb<|Wq<|qW 56 60 rfl<|qJ rfl rfl ty148 ty157 (by omega)<|Od rfl rfl (Lg rfl rfl ty157 rfl (prts_tk hc3))<|qB rfl ty157<|qS rfl ty157 (Sl rfl) rfl<|Nl ?_
    generalize ps[j]=p at *
    generalize X++ps.take j=Q at *
    cases he:(p.id == (n:Int))
    ·have e:R++selP Q n=R++selP (X++ps.take (j + 1)) n:=by
      rw [hQ,selP_app,show selP [p] n=[] from by simp [selP,he],List.append_nil]
     refine Wq<|qW 64 68 rfl<|qF rfl ty157 rfl<|qL rfl ty3 rfl<|qM rfl<|qE rfl<|Nl<|Wo rfl ‹_›<|Wu<|qW 82 84 rfl<|qZ rfl (iW _ (by omega))<|qM rfl<|Nl ?_
     rw [e]
     refine WL.rename [(0,0),(1,1)] 2 (by decide) ?_ ?_ (ihC (j + 1) (show ps.length - (j + 1) < ps.length - j from by omega) (show (j + 1)≤ps.length from by omega))
     ·exact aU (lR rfl) (aU (lR rfl) (aU (lR rfl) (aU (lR rfl) (aU (lR rfl) (aU (lR rfl) (aU (lR rfl) (aU (lI rfl) (aU (lI rfl) aM))))))))
     ·exact aU (kP rfl (prtsC_pure _)) (aU (kR rfl) aM)
    ·have e:(R++selP Q n)++[p]=R++selP (X++ps.take (j + 1)) n:=by
      rw [hQ,selP_app,show selP [p] n=[p] from by simp [selP,he],List.append_assoc]
     rw [selP_app,show selP [p] n=[p] from by simp [selP,he],← List.append_assoc,List.length_append,List.length_singleton] at hlen
     generalize R++selP Q n=B at *
     refine Wq<|qW 64 68 rfl<|qF rfl ty157 rfl<|qL rfl ty3 rfl<|qM rfl<|qE rfl<|Nl<|Wt rfl ‹_›<|qW 72 78 rfl<|qM rfl<|qG rfl ty157 rfl (Tl rfl)<|qY rfl (hcp) fok136 rfl<|Od rfl rfl (LO.buildSlice rfl ty148 ty157 (by decide) (by decide) (.cons rfl rfl rfl rfl (Sl rfl) .nil))<|Od rfl rfl (Lap rfl rfl (Sso rfl rfl (Tl rfl)) rfl (prts_all rfl) ty148 ty148 ty157 (by decide) (by omega) (by omega) (by decide))<|qA rfl<|Nl ?_
     rw [show prtsC B++[.base (.int .i64 p.id),.base (.int .i64 p.sw),.base (.int .i64 p.speed),.isl (macsC p.macs) p.macs.length,.base (.bool p.v4.v6),.base (.int .u64 p.v4.hi),.base (.int .u64 p.v4.lo),.base (.bool p.v6.v6),.base (.int .u64 p.v6.hi),.base (.int .u64 p.v6.lo)]=prtsC (B++[p]) from by simp [prtsC,prtC,adC],show B.length + 1=(B++[p]).length from by simp,e]
     refine qW 82 84 rfl<|qZ rfl (iW _ (by omega))<|qM rfl<|Nl<|WL.rename [(0,0),(1,76)] 2 (by decide) ?_ ?_ (ihC (j + 1) (show ps.length - (j + 1) < ps.length - j from by omega) (show (j + 1)≤ps.length from by omega))
     ·exact aU (lR rfl) (aU (lR rfl) (aU (lR rfl) (aU (lR rfl) (aU (lR rfl) (aU (lR rfl) (aU (lR rfl) (aU (lI rfl) (aU (lI rfl) aM))))))))
     ·exact aU (kP rfl (prtsC_pure _)) (aU (kR rfl) aM)
   ·have g3:decide ((j:Int) < (ps.length:Int))=false:=decide_eq_false (by omega)
    refine Wq<|qW 51 52 rfl<|qK rfl<|Nl<|Wq<|Wo rfl ‹_›<|Wx ?_
    clear ihC
    obtain rfl:j=ps.length:=by omega
    rw [List.take_length,← hfl]
    refine qW 88 90 rfl<|qZ rfl (iW _ (by omega))<|qM rfl<|Nl<|WL.rename [(0,0),(1,1)] 2 (by decide) ?_ ?_ (ihB (i + 1) (show A.length - (i + 1) < A.length - i from by omega) (show (i + 1)≤A.length from by omega))
    ·exact aU (lR rfl) (aU (lR rfl) (aU (lR rfl) (aU (lR rfl) (aU (lI rfl) (aU (lI rfl) aM)))))
    ·exact aU (kP rfl (prtsC_pure _)) (aU (kR rfl) aM)
  ·have g2:decide ((i:Int) < (A.length:Int))=false:=decide_eq_false (by omega)
   refine Wq<|qW 30 31 rfl<|qK rfl<|Nl<|Wq<|Wo rfl ‹_›<|Wx ?_
   clear ihB
   obtain rfl:i=A.length:=by omega
   rw [List.take_length,← hZ,hnext]
   refine qW 94 97 rfl<|qM rfl<|qZ rfl (iW _ (by omega))<|qA rfl<|Nl<|WL.rename [(0,0),(1,1)] 2 (by decide) ?_ ?_ (ihA (n + 1) (show 1000 - (n + 1) < 1000 - n from by omega) (show (n + 1)≤1000 from by omega))
   ·exact aU (lR rfl) (aU (lI rfl) (aU (lI rfl) aM))
   ·exact aU (kP rfl (prtsC_pure _)) (aU (kR rfl) aM)
 ·have g1:decide ((n:Int)≤999)=false:=decide_eq_false (by omega)
  refine Wq<|Wq<|qW 16 18 rfl<|qM rfl<|qLe rfl<|Nl<|Wo rfl ‹_›<|Wx ?_
  clear ihA
  obtain rfl:n=1000:=by omega
  refine Wq<|qW 101 103 rfl<|qM rfl<|qA rfl<|Nl<|Wy (t:=2) rfl rfl (prts_all rfl) (prtsC_pure _)<|Wz ⟨.inl rfl,_,mt,Rc (Rt rfl) (Rv),aM,?_⟩
  exact ⟨rfl,rfl⟩
theorem sel_sorted:∀ (N:Nat) (L:List Prt),L.Pairwise (fun a b=>a.id < b.id)→(∀ p,p∈L→0≤p.id)→(List.range N).flatMap (selP L)=L.filter fun p=>decide (p.id < (N:Int)):=by
 intro N
 induction N with
 | zero =>
  intro L _ h0
  rw [List.range_zero,List.flatMap_nil]
  symm
  rw [List.filter_eq_nil_iff]
  intro p hp h
  have:=h0 p hp
  simp at h
  omega
 | succ N ih =>
  intro L hL h0
  rw [List.range_succ,List.flatMap_append,ih L hL h0,List.flatMap_cons,List.flatMap_nil,List.append_nil]
  clear ih
  induction L with
  | nil=>rfl
  | cons p L ih =>
   rw [List.pairwise_cons] at hL
   have ih:=ih hL.2 (fun q hq=>h0 q (by simp [hq]))
   unfold selP at ih ⊢
   by_cases h1:p.id < (N:Int)
   ·rw [List.filter_cons_of_pos (by simpa using h1),List.filter_cons_of_neg (by simp;omega),List.filter_cons_of_pos (by simp;omega),List.cons_append,ih]
   ·by_cases h2:p.id=(N:Int)
    ·have hb:L.filter (fun q=>decide (q.id < (N:Int)))=[]:=by
      rw [List.filter_eq_nil_iff]
      intro q hq h
      have:=hL.1 q hq
      simp at h
      omega
     rw [hb,List.nil_append] at ih
     rw [List.filter_cons_of_neg (by simp;omega),hb,List.nil_append,List.filter_cons_of_pos (by simp [h2]),List.filter_cons_of_pos (by simp;omega),ih]
    ·rw [List.filter_cons_of_neg (by simp;omega),List.filter_cons_of_neg (by simpa using h2),List.filter_cons_of_neg (by simp;omega),ih]
theorem ports_all (d:Db) (h:(allP d).Pairwise fun a b=>a.id < b.id) (hr:∀ p,p∈allP d→1≤p.id∧p.id≤999):portsOf d=allP d:=by
 unfold portsOf
 rw [sel_sorted 1000 _ h (fun p hp=>by have:=hr p hp;omega)]
 rw [List.filter_eq_self]
 intro p hp
 have:=hr p hp
 simp
 omega
theorem owner_any (d:Db) (hd:DbOk d) (port:Int):∃ v H',AFn Tryz.prog 93 0 [.agg (dbC d),.base (.int .i64 port)] mt v H'∧∃ (a:Int) (b:Bool),v=.tup [.base (.int .i64 a),.base (.bool b)]∧H'=mt:=by
 refine AFn.ex Tryz.func93 rfl rfl (Nat.le_of_ble_eq_true rfl) ?_
 have h4:=hd.ns
 have h32:=hd.nm
 have hmem:=hd.mem
 have hall:=all_any d (by omega) (by omega)
 obtain ⟨A,hA⟩:∃ A,A=d.servers++d.members:=⟨_,rfl⟩
 rw [← hA] at hall hmem
 have hAl:A.length≤2000:=by rw [hA,List.length_append];omega
 refine Wq<|qW 0 3 rfl<|qC rfl<|qA rfl<|qA rfl<|Nl<|Wq<|Wq<|qW 7 11 rfl<|qG rfl ty105 rfl (Tl rfl)<|qY rfl (hall) fok135 rfl<|qH rfl ty103<|qM rfl<|Nl<|Wb<|W.rename [] 0 (T':=up (up (up (up mt 1 (some (.base (.int .i64 port)))) 11 (some (.isl (memsC A) A.length))) 12 (some (.base (.int .i64 (A.length:Int))))) 13 (some (.base (.int .i64 (0:Int))))) (H':=mt) (by decide) ?_ ?_ ?_
 ·exact aU (lR rfl) (aU (lR rfl) (aU (lR rfl) (aU (lR rfl) aM)))
 ·exact aM
 refine W.loop_ind (α:=Nat) (fun x=>A.length - x) 0 (fun x=>up (up (up (up mt 1 (some (.base (.int .i64 port)))) 11 (some (.isl (memsC A) A.length))) 12 (some (.base (.int .i64 (A.length:Int))))) 13 (some (.base (.int .i64 (x:Int))))) (fun x=>mt) (fun x=>x≤A.length) 0 (show 0≤A.length from Nat.zero_le _) ?_
 rintro i hIA ihA
 try (dsimp only at hIA)
 try dsimp only
 by_cases hc:i < A.length
 ·have g1:decide ((i:Int) < (A.length:Int))=true:=decide_eq_true (by omega)
  have hm:=hmem _ (List.getElem_mem hc)
  refine Wq<|qW 15 16 rfl<|qK rfl<|Nl<|Wq<|Wt rfl ‹_›<|Wu<|Wq<|Wb<|Wq<|qW 20 24 rfl<|qJ rfl rfl ty103 ty150 (by omega)<|Od rfl rfl (Lg rfl rfl ty150 rfl (mems_tk hc))<|qB rfl ty150<|qS rfl ty150 (Sl rfl) rfl<|Nl ?_
  generalize A[i]=m at *
  have hnp:=hm.np
  refine Wq<|qW 28 32 rfl<|qF rfl ty150 rfl<|qL rfl ty148 rfl<|qH rfl ty148<|qM rfl<|Nl ?_
  obtain ⟨asn,name,set,x4,x6,ps⟩:=m
  dsimp only at hnp
  clear hm
  refine Wb<|W.rename [(0,22)] 1 (T':=up (up (up (up (up (up (up (up mt 1 (some (.base (.int .i64 port)))) 7 (some (.own 0 0))) 11 (some (.isl (memsC A) A.length))) 12 (some (.base (.int .i64 (A.length:Int))))) 13 (some (.base (.int .i64 (i:Int))))) 18 (some (.isl (prtsC ps) ps.length))) 19 (some (.base (.int .i64 (ps.length:Int))))) 20 (some (.base (.int .i64 (0:Int))))) (H':=up mt 0 (some (memC ⟨asn,name,set,x4,x6,ps⟩))) (by decide) ?_ ?_ ?_
  ·exact aU (lR rfl) (aU (lR rfl) (aU (lR rfl) (aU (lR rfl) (aU (lR rfl) (aU (lR rfl) (aU (lI rfl) (aU (lR rfl) aM)))))))
  ·exact aU (kR rfl) aM
  refine W.loop_ind (α:=Nat) (fun x=>ps.length - x) 1 (fun x=>up (up (up (up (up (up (up (up mt 1 (some (.base (.int .i64 port)))) 7 (some (.own 0 0))) 11 (some (.isl (memsC A) A.length))) 12 (some (.base (.int .i64 (A.length:Int))))) 13 (some (.base (.int .i64 (i:Int))))) 18 (some (.isl (prtsC ps) ps.length))) 19 (some (.base (.int .i64 (ps.length:Int))))) 20 (some (.base (.int .i64 (x:Int))))) (fun x=>up mt 0 (some (memC ⟨asn,name,set,x4,x6,ps⟩))) (fun x=>x≤ps.length) 0 (show 0≤ps.length from Nat.zero_le _) ?_
  rintro j hIB ihB
  try (dsimp only at hIB)
  try dsimp only
  by_cases hc2:j < ps.length
  ·have g2:decide ((j:Int) < (ps.length:Int))=true:=decide_eq_true (by omega)
   refine Wq<|qW 36 37 rfl<|qK rfl<|Nl<|Wq<|Wt rfl ‹_›<|Wu<|Wq<|Wb<|Wq<|qW 41 45 rfl<|qJ rfl rfl ty148 ty157 (by omega)<|Od rfl rfl (Lg rfl rfl ty157 rfl (prts_tk hc2))<|qB rfl ty157<|qS rfl ty157 (Sl rfl) rfl<|Nl ?_
   generalize ps[j]=p at *
   cases he:(p.id == port)
   ·
    refine Wq<|qW 49 53 rfl<|qF rfl ty157 rfl<|qL rfl ty3 rfl<|qM rfl<|qE rfl<|Nl<|Wo rfl ‹_›<|Wu<|qW 65 67 rfl<|qZ rfl (iW _ (by omega))<|qM rfl<|Nl<|WL.rename [(0,0)] 1 (by decide) ?_ ?_ (ihB (j + 1) (show ps.length - (j + 1) < ps.length - j from by omega) (show (j + 1)≤ps.length from by omega))
    ·exact aU (lR rfl) (aU (lR rfl) (aU (lR rfl) (aU (lR rfl) (aU (lR rfl) (aU (lR rfl) (aU (lI rfl) (aU (lR rfl) aM)))))))
    ·exact aU (kR rfl) aM
   ·
    refine Wq<|qW 49 53 rfl<|qF rfl ty157 rfl<|qL rfl ty3 rfl<|qM rfl<|qE rfl<|Nl<|Wt rfl ‹_›<|Wq<|qW 57 61 rfl<|qF rfl ty150 rfl<|qL rfl ty3 rfl<|qA rfl<|qA rfl<|Nl<|Wz ⟨.inl rfl,_,mt,(Rc (Rt rfl) (Rc (Rt rfl) Rv)),aM,?_⟩
    exact ⟨asn,true,rfl,rfl⟩
  ·have g2:decide ((j:Int) < (ps.length:Int))=false:=decide_eq_false (by omega)
   refine Wq<|qW 36 37 rfl<|qK rfl<|Nl<|Wq<|Wo rfl ‹_›<|Wx ?_
   clear ihB
   refine qW 71 73 rfl<|qZ rfl (iW _ (by omega))<|qM rfl<|Nl<|WL.rename [] 0 (by decide) ?_ ?_ (ihA (i + 1) (show A.length - (i + 1) < A.length - i from by omega) (show (i + 1)≤A.length from by omega))
   ·exact aU (lR rfl) (aU (lR rfl) (aU (lR rfl) (aU (lR rfl) aM)))
   ·exact aM
 ·have g1:decide ((i:Int) < (A.length:Int))=false:=decide_eq_false (by omega)
  refine Wq<|qW 15 16 rfl<|qK rfl<|Nl<|Wq<|Wo rfl ‹_›<|Wx<|Wq<|qW 77 79 rfl<|qA rfl<|qA rfl<|Nl<|Wz ⟨.inl rfl,_,mt,(Rc (Rt rfl) (Rc (Rt rfl) Rv)),aM,?_⟩
  exact ⟨0,false,rfl,rfl⟩
theorem owner_ex (d:Db) (hd:DbOk d):∃ (g:Int→Int) (b:Int→Bool),∀ port,AFn Tryz.prog 93 0 [.agg (dbC d),.base (.int .i64 port)] mt (.tup [.base (.int .i64 (g port)),.base (.bool (b port))]) mt:=by
 have h:∀ port,∃ ab:Int × Bool,AFn Tryz.prog 93 0 [.agg (dbC d),.base (.int .i64 port)] mt (.tup [.base (.int .i64 ab.1),.base (.bool ab.2)]) mt:=fun port=>by
  obtain ⟨v,H',h1,a,b,rfl,rfl⟩:=owner_any d hd port
  exact ⟨(a,b),h1⟩
 obtain ⟨f,hf⟩:=Classical.axiomOfChoice h
 exact ⟨fun p=>(f p).1,fun p=>(f p).2,hf⟩
structure Rl where
 port:Int
 asn:Int
 sw:Int
 macs:List (List Int)
 v4:List Ad
 v6:List Ad
 rate:Int
 burst:Int
def adsC (l:List Ad):List AV:=l.flatMap adC
def ruleC (r:Rl):List AV:=[.base (.int .i64 r.port),.base (.int .i64 r.asn),.base (.int .i64 r.sw),.isl (macsC r.macs) r.macs.length,.isl (adsC r.v4) r.v4.length,.isl (adsC r.v6) r.v6.length,.base (.int .i64 r.rate),.base (.int .i64 r.burst)]
def rulesC (l:List Rl):List AV:=l.flatMap ruleC
theorem rulesC_pure (l:List Rl):(rulesC l).all AV.pure1=true:=flatPure (fun _=>rfl) l
theorem rules_all {l:List Rl} {n:Nat} (h:l.length=n):Tk (rulesC l) 0 (n * 8) (rulesC l):=flatAll (c:=ruleC) (fun _=>rfl) h
theorem rules_tk {l:List Rl} {k:Nat} (h:k < l.length):Tk (rulesC l) (k * 8) 8 (ruleC l[k]):=flatTk (c:=ruleC) (fun _=>rfl) h
theorem adsC_pure (l:List Ad):(adsC l).all AV.pure1=true:=flatPure (fun _=>rfl) l
theorem ads_all {l:List Ad} {n:Nat} (h:l.length=n):Tk (adsC l) 0 (n * 3) (adsC l):=flatAll (c:=adC) (fun _=>rfl) h
theorem ads_tk {l:List Ad} {k:Nat} (h:k < l.length):Tk (adsC l) (k * 3) 3 (adC l[k]):=flatTk (c:=adC) (fun _=>rfl) h
def ad1 (a:Ad):List Ad:=if zeroA a=true then [] else [a]
def ruleOf (g:Int→Int) (rate burst:Int) (p:Prt):Rl:=⟨p.id,g p.id,p.sw,p.macs,ad1 p.v4,ad1 p.v6,rate,burst⟩
set_option maxHeartbeats 1000000 in
theorem rules_any (d:Db) (hd:DbOk d) (ho:Once d) (hp:portsOf d=allP d) (hl:(allP d).length≤1000) (rate burst:Int) (hr:0≤rate∧rate≤burst∧burst≤1048576) :
 ∃ g:Int→Int,AFn Tryz.prog 47 0 [.agg (dbC d),.base (.int .i64 rate),.base (.int .i64 burst)] mt (.tup [.isl (rulesC ((allP d).map (ruleOf g rate burst))) ((allP d).map (ruleOf g rate burst)).length,.base (.int .i64 0)]) mt:=by
 obtain ⟨g,gb,hg⟩:=owner_ex d hd
 refine ⟨g,AFn.eq Tryz.func47 rfl rfl (Nat.le_of_ble_eq_true rfl) ?_⟩
 have hck:=dbck_any d hd ho
 have hpo:=ports_any d hd (by rw [hp];exact hl)
 rw [hp] at hpo
 generalize allP d=ps at *
 obtain ⟨rs,hrs⟩:∃ rs,rs=ps.map (ruleOf g rate burst):=⟨_,rfl⟩
 rw [← hrs]
 have hrl:rs.length=ps.length:=by rw [hrs,List.length_map]
 have k1:decide (burst < 0)=false:=decide_eq_false (by omega)
 have k2:decide (burst > 1048576)=false:=decide_eq_false (by omega)
 have k3:decide (rate < 0)=false:=decide_eq_false (by omega)
 have k4:decide (rate > burst)=false:=decide_eq_false (by omega)
 clear hp ho
 refine Wq<|qW 0 3 rfl<|qC rfl<|qA rfl<|qA rfl<|Nl<|Wq<|Wq<|qW 7 10 rfl<|qG rfl ty105 rfl (Tl rfl)<|qY rfl (hck) fok91 rfl<|qA rfl<|Nl<|Wq<|qW 14 16 rfl<|qM rfl<|qN rfl<|Nl<|Wo rfl rfl<|Wu<|Wq<|Wq<|qW 27 42 rfl<|qM rfl<|qK rfl<|qM rfl<|gM rfl ‹_›<|gGt rfl ‹_›<|qP rfl ‹_› rfl<|qM rfl<|gM rfl ‹_›<|gK rfl ‹_›<|qP rfl ‹_› rfl<|qM rfl<|gM rfl ‹_›<|gM rfl ‹_›<|gGt rfl ‹_›<|qP rfl ‹_› rfl<|Nl<|Wo rfl ‹_›<|Wu<|Wq<|qW 52 53 rfl<|qA rfl<|Nl<|W.name 53 (53 + 1) (t:=9) (sz:=8) rfl (by decide) (by decide)<|Wq<|Wq<|qW 57 61 rfl<|qG rfl ty105 rfl (Tl rfl)<|qY rfl (hpo) fok92 rfl<|qH rfl ty148<|qM rfl<|Nl<|Wb<|W.rename [(0,0),(1,53)] 2 (T':=up (up (up (up (up (up (up mt 1 (some (.base (.int .i64 rate)))) 2 (some (.base (.int .i64 burst)))) 3 (some (.own 0 0))) 9 (some (.osl 1 0 0 8))) 36 (some (.isl (prtsC ps) ps.length))) 37 (some (.base (.int .i64 (ps.length:Int))))) 38 (some (.base (.int .i64 (0:Int))))) (H':=up (up mt 0 (some (dbC d))) 1 (some (rulesC (rs.take 0)))) (by decide) ?_ ?_ ?_
 ·exact aU (lR rfl) (aU (lR rfl) (aU (lR rfl) (aU (lI rfl) (aU (lI rfl) (aU (lR rfl) (aU (lR rfl) aM))))))
 ·exact aU (kR rfl) (aU (kR rfl) aM)
 refine W.loop_ind (α:=Nat) (fun x=>ps.length - x) 2 (fun x=>up (up (up (up (up (up (up mt 1 (some (.base (.int .i64 rate)))) 2 (some (.base (.int .i64 burst)))) 3 (some (.own 0 0))) 9 (some (.osl 1 0 x 8))) 36 (some (.isl (prtsC ps) ps.length))) 37 (some (.base (.int .i64 (ps.length:Int))))) 38 (some (.base (.int .i64 (x:Int))))) (fun x=>up (up mt 0 (some (dbC d))) 1 (some (rulesC (rs.take x)))) (fun x=>x≤ps.length) 0 (show 0≤ps.length from Nat.zero_le _) ?_
 rintro i hIA ihA
 try (dsimp only at hIA)
 try dsimp only
 by_cases hc:i < ps.length
 ·have g1:decide ((i:Int) < (ps.length:Int))=true:=decide_eq_true (by omega)
  have hri:rs.take (i + 1)=rs.take i++[ruleOf g rate burst ps[i]]:=by
   rw [hrs,List.take_succ_eq_append_getElem (by simpa using hc)]
   simp
  have hti:(rs.take i).length=i:=by rw [List.length_take];omega
  refine Wq<|qW 65 66 rfl<|qK rfl<|Nl<|Wq<|Wt rfl ‹_›<|Wu<|Wq<|Wb<|Wq<|qW 70 74 rfl<|qJ rfl rfl ty148 ty157 (by omega)<|Od rfl rfl (Lg rfl rfl ty157 rfl (prts_tk hc))<|qB rfl ty157<|qS rfl ty157 (Sl rfl) rfl<|Nl ?_
  generalize ps[i]=p at *
  have hgi:=hg p.id
  obtain ⟨id,sw,sp,macs,v4,v6⟩:=p
  dsimp only at hgi
  refine Wq<|qW 78 87 rfl<|qG rfl ty105 rfl (Tl rfl)<|qF rfl ty157 rfl<|qL rfl ty3 rfl<|qY rfl (hgi) fok93 rfl<|qM rfl<|qX rfl<|qX rfl<|qA rfl<|qA rfl<|Nl<|Wq<|qW 91 103 rfl<|qF rfl ty157 rfl<|qL rfl ty3 rfl<|qM rfl<|qF rfl ty157 rfl<|qL rfl ty3 rfl<|qF rfl ty157 rfl<|qL rfl ty36 rfl<|qM rfl<|qM rfl<|Od rfl rfl (Bs rfl ty39 (.cons rfl rfl rfl rfl (Sl rfl) (.cons rfl rfl rfl rfl (Sl rfl) (.cons rfl rfl rfl rfl (Sl rfl) (.cons rfl rfl rfl rfl (Sl rfl) (.cons rfl rfl rfl rfl (Sl rfl) (.cons rfl rfl rfl rfl (Sl rfl) .nil)))))))<|qB rfl ty39<|qS rfl ty39 (Sl rfl) rfl<|Nl<|Wq<|W.joinK (α:=List Ad) 4 (fun x=>[(1,.base (.int .i64 rate)),(2,.base (.int .i64 burst)),(3,.own 0 0),(9,.osl 1 0 i 8),(11,.own 2 0),(14,.own 3 0)]) (fun x=>up (up (up (up mt 0 (some (dbC d))) 1 (some (rulesC (rs.take i)))) 2 (some (prtC ⟨id,sw,sp,macs,v4,v6⟩))) 3 (some ([.base (.int .i64 id),.base (.int .i64 (g id)),.base (.int .i64 sw),.isl (macsC macs) macs.length,.isl (adsC x) x.length,.nils,.base (.int .i64 rate),.base (.int .i64 burst)]))) (fun x=>x=ad1 v4) (.cons (t:=36) rfl (by exact .inl rfl) (.cons (t:=37) rfl (by exact .inl rfl) (.cons (t:=38) rfl (by exact .inl rfl) .nil))) ?_ ?_
  rotate_left
  rintro L hIF
  try (dsimp only at hIF)
  try dsimp only [joinT,baseT,List.cons_append,List.nil_append]
  rotate_right
  ·
   by_cases hz:zeroA v4=true
   ·have gz:(!eqA v4 ⟨false,0,0⟩)=false:=by rw [show eqA v4 ⟨false,0,0⟩=true from hz];rfl
    refine Wq<|qW 107 111 rfl<|qF rfl ty157 rfl<|qG rfl ty54 rfl (Tl rfl)<|Od rfl rfl (Bs rfl ty54 .nil)<|Od rfl rfl (LO.neq_ad v4 ⟨false,0,0⟩ rfl rfl rfl)<|Nl<|Wo rfl ‹_›<|Wu ?_
    intro yJ KJ hJ
    refine W.nilc (q:=101) (j:=4) rfl rfl (Sl rfl)<|W.renameJ [(0,0),(1,1),(2,72),(3,101)] 4 (by decide) ?_ ?_ (hJ (([]:List Ad)) (show (([]:List Ad))=ad1 v4 from by unfold ad1;rw [if_pos hz]))
    ·exact lC (lR rfl) (lC (lR rfl) (lC (lI rfl) (lC (lI rfl) (lC (lI rfl) (lC (lI rfl) (lC (lR rfl) (lC (lR rfl) (lC (lR rfl) lN))))))))
    ·exact aU (kR rfl) (aU (kR rfl) (aU (kP rfl (rulesC_pure _)) (aU (kR rfl) aM)))
   ·have gz:(!eqA v4 ⟨false,0,0⟩)=true:=by rw [show eqA v4 ⟨false,0,0⟩=false from by simpa [zeroA] using hz];rfl
    refine Wq<|qW 107 111 rfl<|qF rfl ty157 rfl<|qG rfl ty54 rfl (Tl rfl)<|Od rfl rfl (Bs rfl ty54 .nil)<|Od rfl rfl (LO.neq_ad v4 ⟨false,0,0⟩ rfl rfl rfl)<|Nl<|Wt rfl ‹_›<|qW 115 120 rfl<|qF rfl ty157 rfl<|qG rfl ty54 rfl (Tl rfl)<|Od rfl rfl (LO.buildSlice rfl ty37 ty54 (by decide) (by decide) (.cons rfl rfl rfl rfl (Sl rfl) .nil))<|qF rfl ty39 rfl<|qS rfl ty37 (Sl rfl) rfl<|Nl ?_
    intro yJ KJ hJ
    refine Wv (q:=101) (j:=4) (r:=117) rfl rfl (by decide) rfl (Tl rfl) rfl (Sl rfl)<|W.renameJ [(0,0),(1,1),(2,72),(3,101)] 4 (by decide) ?_ ?_ (hJ [v4] (show [v4]=ad1 v4 from by unfold ad1;rw [if_neg hz]))
    ·exact lC (lR rfl) (lC (lR rfl) (lC (lI rfl) (lC (lI rfl) (lC (lI rfl) (lC (lI rfl) (lC (lR rfl) (lC (lR rfl) (lC (lR rfl) lN))))))))
    ·exact aU (kR rfl) (aU (kR rfl) (aU (kP rfl (rulesC_pure _)) (aU (kR rfl) aM)))
  refine Wq<|W.joinK (α:=List Ad) 3 (fun x=>[(1,.base (.int .i64 rate)),(2,.base (.int .i64 burst)),(3,.own 0 0),(9,.osl 1 0 i 8),(14,.own 2 0)]) (fun x=>up (up (up mt 0 (some (dbC d))) 1 (some (rulesC (rs.take i)))) 2 (some (ruleC ⟨id,g id,sw,macs,L,x,rate,burst⟩))) (fun x=>x=ad1 v6) (.cons (t:=36) rfl (by exact .inl rfl) (.cons (t:=37) rfl (by exact .inl rfl) (.cons (t:=38) rfl (by exact .inl rfl) .nil))) ?_ ?_
  rotate_left
  rintro M hIG
  try (dsimp only at hIG)
  try dsimp only [joinT,baseT,List.cons_append,List.nil_append]
  rotate_right
  ·
   by_cases hz:zeroA v6=true
   ·have gz:(!eqA v6 ⟨false,0,0⟩)=false:=by rw [show eqA v6 ⟨false,0,0⟩=true from hz];rfl
    refine Wq<|qW 124 128 rfl<|qF rfl ty157 rfl<|qG rfl ty54 rfl (Tl rfl)<|Od rfl rfl (Bs rfl ty54 .nil)<|Od rfl rfl (LO.neq_ad v6 ⟨false,0,0⟩ rfl rfl rfl)<|Nl<|Wo rfl ‹_›<|Wu ?_
    intro yJ KJ hJ
    refine W.nilc (q:=3) (j:=5) rfl rfl (Sl rfl)<|W.renameJ [(0,0),(1,1),(2,3)] 3 (by decide) ?_ ?_ (hJ (([]:List Ad)) (show (([]:List Ad))=ad1 v6 from by unfold ad1;rw [if_pos hz]))
    ·exact lC (lR rfl) (lC (lR rfl) (lC (lI rfl) (lC (lI rfl) (lC (lI rfl) (lC (lR rfl) (lC (lR rfl) (lC (lR rfl) lN)))))))
    ·exact aU (kR rfl) (aU (kP rfl (rulesC_pure _)) (aU (kR rfl) aM))
   ·have gz:(!eqA v6 ⟨false,0,0⟩)=true:=by rw [show eqA v6 ⟨false,0,0⟩=false from by simpa [zeroA] using hz];rfl
    refine Wq<|qW 124 128 rfl<|qF rfl ty157 rfl<|qG rfl ty54 rfl (Tl rfl)<|Od rfl rfl (Bs rfl ty54 .nil)<|Od rfl rfl (LO.neq_ad v6 ⟨false,0,0⟩ rfl rfl rfl)<|Nl<|Wt rfl ‹_›<|qW 132 137 rfl<|qF rfl ty157 rfl<|qG rfl ty54 rfl (Tl rfl)<|Od rfl rfl (LO.buildSlice rfl ty37 ty54 (by decide) (by decide) (.cons rfl rfl rfl rfl (Sl rfl) .nil))<|qF rfl ty39 rfl<|qS rfl ty37 (Sl rfl) rfl<|Nl ?_
    intro yJ KJ hJ
    refine Wv (q:=3) (j:=5) (r:=134) rfl rfl (by decide) rfl (Tl rfl) rfl (Sl rfl)<|W.renameJ [(0,0),(1,1),(2,3)] 3 (by decide) ?_ ?_ (hJ [v6] (show [v6]=ad1 v6 from by unfold ad1;rw [if_neg hz]))
    ·exact lC (lR rfl) (lC (lR rfl) (lC (lI rfl) (lC (lI rfl) (lC (lI rfl) (lC (lR rfl) (lC (lR rfl) (lC (lR rfl) lN)))))))
    ·exact aU (kR rfl) (aU (kP rfl (rulesC_pure _)) (aU (kR rfl) aM))
  have hL:=‹L=_›
  have hM:=‹M=_›
  refine qW 141 146 rfl<|qM rfl<|qG rfl ty39 rfl (Tl rfl)<|Od rfl rfl (LO.buildSlice rfl ty30 ty39 (by decide) (by decide) (.cons rfl rfl rfl rfl (Sl rfl) .nil))<|Od rfl rfl (Lap rfl rfl (Sso rfl rfl (Tl rfl)) rfl (rules_all hti) ty30 ty30 ty39 (by decide) (by omega) (by omega) (by decide))<|qA rfl<|Nl ?_
  rw [show rulesC (rs.take i)++[.base (.int .i64 id),.base (.int .i64 (g id)),.base (.int .i64 sw),.isl (macsC macs) macs.length,.isl (adsC L) L.length,.isl (adsC M) M.length,.base (.int .i64 rate),.base (.int .i64 burst)]=rulesC (rs.take (i + 1)) from by rw [hri,hL,hM];simp [rulesC,ruleC,ruleOf]]
  refine qW 150 152 rfl<|qZ rfl (iW _ (by omega))<|qM rfl<|Nl<|WL.rename [(0,0),(1,144)] 2 (by decide) ?_ ?_ (ihA (i + 1) (show ps.length - (i + 1) < ps.length - i from by omega) (show (i + 1)≤ps.length from by omega))
  ·exact aU (lR rfl) (aU (lR rfl) (aU (lR rfl) (aU (lI rfl) (aU (lI rfl) (aU (lR rfl) (aU (lR rfl) aM))))))
  ·exact aU (kP rfl (rulesC_pure _)) (aU (kR rfl) aM)
 ·have g1:decide ((i:Int) < (ps.length:Int))=false:=decide_eq_false (by omega)
  refine Wq<|qW 65 66 rfl<|qK rfl<|Nl<|Wq<|Wo rfl ‹_›<|Wx ?_
  clear ihA
  obtain rfl:i=ps.length:=by omega
  rw [← hrl,List.take_length]
  refine Wq<|qW 156 159 rfl<|qM rfl<|qA rfl<|qA rfl<|Nl<|Wy (t:=6) rfl rfl (rules_all rfl) (rulesC_pure _)<|Wz ⟨.inl rfl,_,mt,(Rc (Rt rfl) (Rc (Rt rfl) Rv)),aM,?_⟩
  exact ⟨rfl,rfl⟩
end Go.Proofs.YtlcndmciognneaaGreatDoor
