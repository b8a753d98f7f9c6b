/-
  The document's bindings of the ports. Numbers of two bytes, joining rows of bytes, stations. The check sum of data between two addresses: both texts. The document's check sum; the fixed bytes of a message; the packet with a message, by the program. The packet with a message, by the program.
-/
import Derived.Test.YtlcndmciognneaaGreatDoorJi
import Derived.Test.YtlcndmciognneaaGreatDoorMab
import Derived.Test.YtlcndmciognneaaGreatDoorQf
namespace Go.Proofs.YtlcndmciognneaaGreatDoor
open Go.RowKit
theorem cmp_any (a b:Ad):∃ v H',AFn Tryz.prog 94 0 [.agg (adC a),.agg (adC b)] mt v H'∧∃ c:Int,v=.base (.int .i64 c)∧H'=mt:=by
 refine AFn.ex Tryz.func94 rfl rfl (Nat.le_of_ble_eq_true rfl)<|Wq<|qW 0 3 rfl<|qC rfl<|qC rfl<|qA rfl<|Nl<|Wq<|Wb<|Wq<|qW 7 11 rfl<|qG rfl ty54 rfl (Tl rfl)<|qG rfl ty54 rfl (Tl rfl)<|Od rfl rfl (LO.eql_ad a b rfl rfl rfl)<|qA rfl<|Nl<|W.cond rfl (fun hb1=>?_) (fun hb1=>?_)
 ·
  try (have hb1p:=of_decide_eq_true hb1)
  try (have hb1q:=eq_of_beq hb1)
  refine Wq<|qW 15 16 rfl<|qA rfl<|Nl<|Wz ⟨.inl rfl,_,mt,Rc (Rt rfl) (Rv),aM,?_⟩
  exact ⟨_,rfl,rfl⟩
 ·
  try (have hb1p:=of_decide_eq_false hb1)
  try (have hb1q:=ne_of_beq_false hb1)
  refine Wq<|qW 20 26 rfl<|qF rfl ty54 rfl<|qL rfl ty4 rfl<|qF rfl ty54 rfl<|qL rfl ty4 rfl<|Od rfl rfl (LO.neq_bool rfl rfl rfl ty4)<|qA rfl<|Nl<|W.cond rfl (fun hb2=>?_) (fun hb2=>?_)
  ·
   try (have hb2p:=of_decide_eq_true hb2)
   try (have hb2q:=eq_of_beq hb2)
   refine Wq<|Wq<|qW 30 32 rfl<|qF rfl ty54 rfl<|qL rfl ty4 rfl<|Nl<|W.cond rfl (fun hb3=>?_) (fun hb3=>?_)
   ·
    try (have hb3p:=of_decide_eq_true hb3)
    try (have hb3q:=eq_of_beq hb3)
    refine Wq<|qW 36 37 rfl<|qA rfl<|Nl<|Wz ⟨.inl rfl,_,mt,Rc (Rt rfl) (Rv),aM,?_⟩
    exact ⟨_,rfl,rfl⟩
   ·
    try (have hb3p:=of_decide_eq_false hb3)
    try (have hb3q:=ne_of_beq_false hb3)
    refine Wu<|Wq<|qW 41 42 rfl<|qA rfl<|Nl<|Wz ⟨.inl rfl,_,mt,Rc (Rt rfl) (Rv),aM,?_⟩
    exact ⟨_,rfl,rfl⟩
  ·
   try (have hb2p:=of_decide_eq_false hb2)
   try (have hb2q:=ne_of_beq_false hb2)
   refine Wq<|qW 46 66 rfl<|qF rfl ty54 rfl<|qL rfl ty52 rfl<|qF rfl ty54 rfl<|qL rfl ty52 rfl<|qK rfl<|qM rfl<|RW.split (t:=23) rfl (fun hb4=>?_) (fun hb4=>?_)
   ·
    try (have hb4p:=of_decide_eq_true hb4)
    try (have hb4q:=eq_of_beq hb4)
    refine qD rfl hb4 rfl<|qD rfl hb4 rfl<|qD rfl hb4 rfl<|qD rfl hb4 rfl<|qD rfl hb4 rfl<|qD rfl hb4 rfl<|Ud rfl rfl rfl rfl<|Ud rfl rfl rfl rfl<|Ud rfl rfl rfl rfl<|Ud rfl rfl rfl rfl<|Ud rfl rfl rfl rfl<|qD rfl hb4 rfl<|qT rfl hb4 rfl<|qA rfl<|Nl<|Wt rfl rfl<|Wq<|qW 70 71 rfl<|qA rfl<|Nl<|Wz ⟨.inl rfl,_,mt,Rc (Rt rfl) (Rv),aM,?_⟩
    exact ⟨_,rfl,rfl⟩
   ·
    try (have hb4p:=of_decide_eq_false hb4)
    try (have hb4q:=ne_of_beq_false hb4)
    refine gF rfl hb4 ty54 rfl<|gL rfl hb4 ty52 rfl<|gF rfl hb4 ty54 rfl<|gL rfl hb4 ty52 rfl<|gE rfl hb4<|gM rfl hb4<|RW.split (t:=29) rfl (fun hb5=>?_) (fun hb5=>?_)
    ·
     try (have hb5p:=of_decide_eq_true hb5)
     try (have hb5q:=eq_of_beq hb5)
     refine gF rfl hb5 ty54 rfl<|gL rfl hb5 ty52 rfl<|gF rfl hb5 ty54 rfl<|gL rfl hb5 ty52 rfl<|gK rfl hb5<|qU rfl hb4 rfl (Pt rfl rfl hb5 rfl)<|qP rfl hb4 rfl<|qA rfl<|Nl<|W.cond rfl (fun hb6=>?_) (fun hb6=>?_)
     ·
      try (have hb6p:=of_decide_eq_true hb6)
      try (have hb6q:=eq_of_beq hb6)
      refine Wq<|qW 70 71 rfl<|qA rfl<|Nl<|Wz ⟨.inl rfl,_,mt,Rc (Rt rfl) (Rv),aM,?_⟩
      exact ⟨_,rfl,rfl⟩
     ·
      try (have hb6p:=of_decide_eq_false hb6)
      try (have hb6q:=ne_of_beq_false hb6)
      refine Wu<|Wq<|qW 75 76 rfl<|qA rfl<|Nl<|Wz ⟨.inl rfl,_,mt,Rc (Rt rfl) (Rv),aM,?_⟩
      exact ⟨_,rfl,rfl⟩
    ·
     try (have hb5p:=of_decide_eq_false hb5)
     try (have hb5q:=ne_of_beq_false hb5)
     refine qD rfl hb5 rfl<|qD rfl hb5 rfl<|qD rfl hb5 rfl<|qD rfl hb5 rfl<|qD rfl hb5 rfl<|qU rfl hb4 rfl (Pf0 rfl rfl hb5 rfl)<|qP rfl hb4 rfl<|qA rfl<|Nl<|Wo rfl rfl<|Wu<|Wq<|qW 75 76 rfl<|qA rfl<|Nl<|Wz ⟨.inl rfl,_,mt,Rc (Rt rfl) (Rv),aM,?_⟩
     exact ⟨_,rfl,rfl⟩
structure Bd where
 ad:Ad
 mac:List Int
 port:Int
def bdC (b:Bd):List AV:=adC b.ad++bytesC b.mac++[.base (.int .i64 b.port)]
def bdsC (l:List Bd):List AV:=l.flatMap bdC
theorem bdC_len {b:Bd} (h:b.mac.length=6):(bdC b).length=10:=by simp [bdC,adC,bytesC_len,h]
theorem bdC_pure (b:Bd):(bdC b).all AV.pure1=true:=by
 simp only [bdC,List.all_append,bytesC_pure,adC,Bool.and_true]
 rfl
theorem bdsC_pure (l:List Bd):(bdsC l).all AV.pure1=true:=flatPure bdC_pure l
def MacOk (l:List Bd):Prop:=∀ b,b∈l→b.mac.length=6
theorem bdsC_len {l:List Bd} (h:MacOk l):(bdsC l).length=l.length * 10:=by
 induction l with
 | nil=>rfl
 | cons x l ih=>rw [show bdsC (x::l)=bdC x++bdsC l from rfl,List.length_append,ih (fun b hb=>h b (by simp [hb])),bdC_len (h x (by simp)),List.length_cons];omega
theorem tk_split {a b:List AV} {k m n:Nat} (hk:a.length=k) (hm:b.length=m) (hn:k + m=n):Tk (a++b) 0 k a∧Tk (a++b) k m b:=by
 subst hk hm
 refine ⟨⟨rfl,fun j d hj=>?_⟩,⟨rfl,fun j d hj=>?_⟩⟩
 ·have h:=(List.getElem?_eq_some_iff.1 hj).1
  rw [Nat.zero_add,List.getElem?_append_left h];exact hj
 ·rw [List.getElem?_append_right (by omega),show a.length + j - a.length=j from by omega];exact hj
theorem bds_split {l:List Bd} (h:MacOk l) {i:Nat} (hi:i≤l.length):Tk (bdsC l) 0 (i * 10) (bdsC (l.take i))∧Tk (bdsC l) (i * 10) ((l.length - i) * 10) (bdsC (l.drop i)):=by
 have e:bdsC l=bdsC (l.take i)++bdsC (l.drop i):=by unfold bdsC;rw [← List.flatMap_append,List.take_append_drop]
 have h1:(bdsC (l.take i)).length=i * 10:=by rw [bdsC_len (fun b hb=>h b (List.mem_of_mem_take hb)),List.length_take];congr 1;omega
 have h2:(bdsC (l.drop i)).length=(l.length - i) * 10:=by rw [bdsC_len (fun b hb=>h b (List.mem_of_mem_drop hb)),List.length_drop]
 rw [e]
 exact tk_split h1 h2 rfl
theorem bds_all {l:List Bd} (h:MacOk l):Tk (bdsC l) 0 (l.length * 10) (bdsC l):=by
 have:=Tk.all (bdsC l)
 rwa [bdsC_len h] at this
theorem bds_tk {l:List Bd} (h:MacOk l) {k:Nat} (hk:k < l.length):Tk (bdsC l) (k * 10) 10 (bdC l[k]):=by
 have e:bdsC l=bdsC (l.take k)++(bdC l[k]++bdsC (l.drop (k + 1))):=by
  have e1:bdsC (l.take k++l[k]::l.drop (k + 1))=bdsC l:=by rw [← List.drop_eq_getElem_cons hk,List.take_append_drop]
  rw [← e1]
  unfold bdsC
  rw [List.flatMap_append,List.flatMap_cons]
 have h1:(bdsC (l.take k)).length=k * 10:=by rw [bdsC_len (fun b hb=>h b (List.mem_of_mem_take hb)),List.length_take];congr 1;omega
 have h3:(bdC l[k]).length=10:=bdC_len (h _ (List.getElem_mem hk))
 rw [e]
 refine ⟨h3,fun j d hj=>?_⟩
 have hjl:=(List.getElem?_eq_some_iff.1 hj).1
 rw [List.getElem?_append_right (by omega),h1,show k * 10 + j - k * 10=j from by omega,List.getElem?_append_left hjl]
 exact hj
def macOf (p:Prt):List Int:=p.macs.headD []
def bdsAt (p:Prt) (l:List Ad):List Bd:=l.map fun a=>⟨a,macOf p,p.id⟩
def bdsOf (ps:List Prt):List Bd:=ps.flatMap fun p=>bdsAt p (adsP p)
theorem ad1_len (a:Ad):(ad1 a).length≤1:=by unfold ad1;split<;>simp
theorem LO.eql_adz {o:Oper} {E:Operand→Option AV} {H:Hp} {f:Nat} {ty:TypeId} {x y:Operand} (a:Ad) (ho:o.op=.binOp .eql 54 x y ty) (hx:E x=some (.agg (adC a))) (hy:E y=some (.agg (adC ⟨false,0,0⟩))):LO Tryz.prog o E H f [] [] (.base (.bool (zeroA a))) H:=LO.eql_ad a ⟨false,0,0⟩ ho hx hy
set_option maxHeartbeats 2000000 in
theorem bindings_any (d:Db) (hd:DbOk d) (hp:portsOf d=allP d) (hl:(allP d).length≤1000) (hpo:∀ p,p∈allP d→PrtOk p) :
 ∃ v H',AFn Tryz.prog 50 0 [.agg (dbC d)] mt v H'∧∃ bs:List Bd,(List.Perm bs (bdsOf (allP d))∧MacOk bs)∧v=.isl (bdsC bs) bs.length∧H'=mt:=by
 refine AFn.ex Tryz.func50 rfl rfl (Nat.le_of_ble_eq_true rfl) ?_
 have hpt:=ports_any d hd (by rw [hp];exact hl)
 rw [hp] at hpt
 generalize allP d=ps at *
 clear hp
 refine Wq<|qW 0 2 rfl<|qC rfl<|qA rfl<|Nl<|Wq<|qW 6 7 rfl<|qA rfl<|Nl<|W.name 7 (7 + 1) (t:=3) (sz:=10) rfl (by decide) (by decide)<|Wq<|Wq<|qW 11 15 rfl<|qG rfl ty105 rfl (Tl rfl)<|qY rfl (hpt) fok92 rfl<|qH rfl ty148<|qM rfl<|Nl<|Wb<|W.rename [(0,7)] 1 (T':=up (up (up (up mt 3 (some (.osl 0 0 (([]:List Bd)).length 10))) 10 (some (.isl (prtsC ps) ps.length))) 11 (some (.base (.int .i64 (ps.length:Int))))) 12 (some (.base (.int .i64 (0:Int))))) (H':=up mt 0 (some (bdsC (([]:List Bd))))) (by decide) ?_ ?_ ?_
 ·exact aU (lR rfl) (aU (lR rfl) (aU (lR rfl) (aU (lI rfl) aM)))
 ·exact aU (kR rfl) aM
 refine W.loop_ind (α:=Nat × List Bd) (fun x=>ps.length - x.1) 1 (fun x=>up (up (up (up mt 3 (some (.osl 0 0 x.2.length 10))) 10 (some (.isl (prtsC ps) ps.length))) 11 (some (.base (.int .i64 (ps.length:Int))))) 12 (some (.base (.int .i64 (x.1:Int))))) (fun x=>up mt 0 (some (bdsC x.2))) (fun x=>x.1≤ps.length∧MacOk x.2∧List.Perm x.2 (bdsOf (ps.take x.1))∧x.2.length≤2 * x.1) (0,(([]:List Bd))) (show 0≤ps.length∧MacOk (([]:List Bd))∧List.Perm (([]:List Bd)) (bdsOf (ps.take 0))∧(([]:List Bd)).length≤2 * 0 from ⟨Nat.zero_le _,fun b hb=>absurd hb List.not_mem_nil,.refl _,Nat.le_refl _⟩) ?_
 rintro ⟨i,bs⟩ hIA ihA
 try (dsimp only at hIA)
 try dsimp only
 obtain ⟨hi,hmo,hpm,hbl⟩:=hIA
 by_cases hc:i < ps.length
 ·have g1:decide ((i:Int) < (ps.length:Int))=true:=decide_eq_true (by omega)
  have hok:=hpo _ (List.getElem_mem hc)
  have hbo:bdsOf (ps.take (i + 1))=bdsOf (ps.take i)++bdsAt ps[i] ([ps[i].v4,ps[i].v6].flatMap ad1):=by
   rw [List.take_succ_eq_append_getElem hc]
   unfold bdsOf
   rw [List.flatMap_append]
   simp [adsP,ad1]
  refine Wq<|qW 19 20 rfl<|qK rfl<|Nl<|Wq<|Wt rfl ‹_›<|Wu<|Wq<|Wb<|Wq<|qW 24 28 rfl<|qJ rfl rfl ty148 ty157 (by omega)<|Od rfl rfl (Lg rfl rfl ty157 rfl (prts_tk hc))<|qB rfl ty157<|qS rfl ty157 (Sl rfl) rfl<|Nl ?_
  generalize ps[i]=p at *
  have hm6:=fun m hm=>(hok.macs m hm).1
  have hnm:=hok.nm
  obtain ⟨id,sw,sp,macs,v4,v6⟩:=p
  dsimp only at hm6 hnm hbo
  refine Wq<|qW 32 39 rfl<|qF rfl ty157 rfl<|qG rfl ty54 rfl (Tl rfl)<|qF rfl ty157 rfl<|qG rfl ty54 rfl (Tl rfl)<|Od rfl rfl (LO.buildSlice rfl ty37 ty54 (by decide) (by decide) (.cons rfl rfl rfl rfl (Sl rfl) (.cons rfl rfl rfl rfl (Sl rfl) .nil)))<|Od rfl rfl (LO.len rfl rfl ty37)<|qM rfl<|Nl<|Wy (t:=20) rfl rfl (Tl rfl) rfl ?_
  rw [show ([.base (.bool v4.v6),.base (.int .u64 v4.hi),.base (.int .u64 v4.lo),.base (.bool v6.v6),.base (.int .u64 v6.hi),.base (.int .u64 v6.lo)]:List AV)=adsC [v4,v6] from rfl]
  have hmo0:=hmo
  have hpm0:List.Perm bs (bdsOf (ps.take i)++bdsAt ⟨id,sw,sp,macs,v4,v6⟩ ((([v4,v6]:List Ad).take 0).flatMap ad1)):=by simpa [bdsAt] using hpm
  clear hpm hmo
  obtain ⟨W2,hW2⟩:∃ W2:List Ad,W2=[v4,v6]:=⟨_,rfl⟩
  have hw2:W2.length=2:=by rw [hW2];rfl
  rw [← hW2] at hpm0 hbo ⊢
  have hpw:(([.base (.int .i64 id),.base (.int .i64 sw),.base (.int .i64 sp),.isl (macsC macs) macs.length]:List AV)++adsC W2).all AV.pure1=true:=by
   simp only [List.all_append,adsC_pure,Bool.and_true]
   rfl
  refine Wb<|W.rename [(0,0),(1,26)] 2 (T':=up (up (up (up (up (up (up (up mt 3 (some (.osl 0 0 bs.length 10))) 5 (some (.own 1 0))) 10 (some (.isl (prtsC ps) ps.length))) 11 (some (.base (.int .i64 (ps.length:Int))))) 12 (some (.base (.int .i64 (i:Int))))) 20 (some (.isl (adsC W2) 2))) 21 (some (.base (.int .i64 (2:Int))))) 22 (some (.base (.int .i64 (0:Int))))) (H':=up (up mt 0 (some (bdsC bs))) 1 (some ([.base (.int .i64 id),.base (.int .i64 sw),.base (.int .i64 sp),.isl (macsC macs) macs.length]++adsC W2))) (by decide) ?_ ?_ ?_
  ·exact aU (lR rfl) (aU (lR rfl) (aU (lR rfl) (aU (lR rfl) (aU (lR rfl) (aU (lR rfl) (aU (lI rfl) (aU (lI rfl) aM)))))))
  ·exact aU (kP rfl ‹_›) (aU (kP rfl (bdsC_pure _)) aM)
  refine W.loop_ind (α:=Nat × List Bd) (fun x=>2 - x.1) 2 (fun x=>up (up (up (up (up (up (up (up mt 3 (some (.osl 0 0 x.2.length 10))) 5 (some (.own 1 0))) 10 (some (.isl (prtsC ps) ps.length))) 11 (some (.base (.int .i64 (ps.length:Int))))) 12 (some (.base (.int .i64 (i:Int))))) 20 (some (.isl (adsC W2) 2))) 21 (some (.base (.int .i64 (2:Int))))) 22 (some (.base (.int .i64 (x.1:Int))))) (fun x=>up (up mt 0 (some (bdsC x.2))) 1 (some ([.base (.int .i64 id),.base (.int .i64 sw),.base (.int .i64 sp),.isl (macsC macs) macs.length]++adsC W2))) (fun x=>x.1≤2∧MacOk x.2∧List.Perm x.2 (bdsOf (ps.take i)++bdsAt ⟨id,sw,sp,macs,v4,v6⟩ ((W2.take x.1).flatMap ad1))∧x.2.length≤2 * i + x.1) (0,bs) (show 0≤2∧MacOk bs∧List.Perm bs (bdsOf (ps.take i)++bdsAt ⟨id,sw,sp,macs,v4,v6⟩ ((W2.take 0).flatMap ad1))∧bs.length≤2 * i + 0 from ⟨Nat.zero_le _,hmo0,hpm0,by omega⟩) ?_
  rintro ⟨k,ds⟩ hIB ihB
  try (dsimp only at hIB)
  try dsimp only
  obtain ⟨hk,hmd,hpd,hdl⟩:=hIB
  by_cases hc2:k < 2
  ·have g2:decide ((k:Int) < 2)=true:=decide_eq_true (by omega)
   have hkw:k < W2.length:=by omega
   have hwk:(W2.take (k + 1)).flatMap ad1=(W2.take k).flatMap ad1++ad1 (W2[k]):=by
    rw [List.take_succ_eq_append_getElem hkw,List.flatMap_append];simp
   refine Wq<|qW 43 44 rfl<|qK rfl<|Nl<|Wq<|Wt rfl ‹_›<|Wu<|Wq<|Wb<|Wq<|qW 48 52 rfl<|qJ rfl rfl ty37 ty54 (by omega)<|Od rfl rfl (Lg rfl rfl ty54 rfl (ads_tk (l:=W2) (k:=k) hkw))<|qB rfl ty54<|qS rfl ty54 (Sl rfl) rfl<|Nl ?_
   generalize W2[k]=a at *
   cases hz:zeroA a
   ·have h0:(((macs.length:Nat):Int) == 0)=false:=by rw [beq_eq_false_iff_ne];omega
    have ha1:ad1 a=[a]:=by unfold ad1;rw [hz];rfl
    refine Wq<|Wq<|qW 56 65 rfl<|qG rfl ty54 rfl (Tl rfl)<|Od rfl rfl (Bs rfl ty54 .nil)<|Od rfl rfl (LO.eql_adz a rfl rfl rfl)<|qM rfl<|gF rfl ‹_› ty157 rfl<|gL rfl ‹_› ty36 rfl<|gH rfl ‹_› ty36<|gE rfl ‹_›<|qP rfl ‹_› rfl<|Nl<|Wo rfl ‹_›<|Wu<|Wq<|qW 69 70 rfl<|qA rfl<|Nl<|Wq<|Wb<|W.rename [(0,0),(1,1),(2,50)] 3 (T':=up (up (up (up (up (up (up (up (up (up mt 3 (some (.osl 0 0 ds.length 10))) 5 (some (.own 1 0))) 7 (some (.own 2 0))) 8 (some (.base (.int .i64 (0:Int))))) 10 (some (.isl (prtsC ps) ps.length))) 11 (some (.base (.int .i64 (ps.length:Int))))) 12 (some (.base (.int .i64 (i:Int))))) 20 (some (.isl (adsC W2) 2))) 21 (some (.base (.int .i64 (2:Int))))) 22 (some (.base (.int .i64 (k:Int))))) (H':=up (up (up mt 0 (some (bdsC ds))) 1 (some ([.base (.int .i64 id),.base (.int .i64 sw),.base (.int .i64 sp),.isl (macsC macs) macs.length]++adsC W2))) 2 (some (adC a))) (by decide) ?_ ?_ ?_
    ·exact aU (lR rfl) (aU (lR rfl) (aU (lR rfl) (aU (lR rfl) (aU (lR rfl) (aU (lR rfl) (aU (lR rfl) (aU (lI rfl) (aU (lI rfl) (aU (lI rfl) aM)))))))))
    ·exact aU (kR rfl) (aU (kP rfl ‹_›) (aU (kP rfl (bdsC_pure _)) aM))
    refine W.loop_ind (α:=Nat) (fun x=>ds.length - x) 3 (fun x=>up (up (up (up (up (up (up (up (up (up mt 3 (some (.osl 0 0 ds.length 10))) 5 (some (.own 1 0))) 7 (some (.own 2 0))) 8 (some (.base (.int .i64 (x:Int))))) 10 (some (.isl (prtsC ps) ps.length))) 11 (some (.base (.int .i64 (ps.length:Int))))) 12 (some (.base (.int .i64 (i:Int))))) 20 (some (.isl (adsC W2) 2))) 21 (some (.base (.int .i64 (2:Int))))) 22 (some (.base (.int .i64 (k:Int))))) (fun x=>up (up (up mt 0 (some (bdsC ds))) 1 (some ([.base (.int .i64 id),.base (.int .i64 sw),.base (.int .i64 sp),.isl (macsC macs) macs.length]++adsC W2))) 2 (some (adC a))) (fun x=>x≤ds.length) 0 (show 0≤ds.length from Nat.zero_le _) ?_
    rintro n hIC ihC
    try (dsimp only at hIC)
    try dsimp only
    have hlen10:(ds.length + 1) * 80≤140737488355328:=by omega
    by_cases hn:n < ds.length
    case' pos =>
     have g3:decide ((n:Int) < (ds.length:Int))=true:=decide_eq_true (by omega)
     obtain ⟨vc,Hc,hcm,c,rfl,rfl⟩:=cmp_any ds[n].ad a
     have htn:=(bds_tk hmd hn).2
     have htn0:Tk (bdsC ds) (0 + n * 10 + 0) 3 (adC ds[n].ad):=⟨rfl,fun j e hj=>by
      have hjl:j < 3:=(List.getElem?_eq_some_iff.1 hj).1
      rw [Nat.zero_add,Nat.add_zero]
      exact htn j e (by rw [show bdC ds[n]=adC ds[n].ad++(bytesC ds[n].mac++[.base (.int .i64 ds[n].port)]) from by simp [bdC],List.getElem?_append_left (by exact hjl)];exact hj)⟩
     cases hcc:decide (c < 0)
     case' true =>
      refine Wq<|Wq<|Wd 74 88 (by decide) rfl mixed rfl<|qM rfl<|qM rfl<|Od rfl rfl (LO.len rfl rfl ty31)<|qK rfl<|qM rfl<|gM rfl ‹_›<|gM rfl ‹_›<|qU rfl ‹_› rfl (Ia rfl rfl rfl rfl ty31 ty161 (by omega))<|gF rfl ‹_› ty161 rfl<|gG rfl ‹_› ty54 rfl htn0<|gG rfl ‹_› ty54 rfl (Tl rfl)<|gY rfl ‹_› (hcm) fok94 rfl<|gK rfl ‹_›<|qT rfl ‹_› rfl<|Nl ⟨by kernel_rfl,(Wt rfl ‹_›<|Wu<|Wb<|qW 92 95 rfl<|qM rfl<|qZ rfl (iW _ (by omega))<|qA rfl<|Nl<|WL.rename [(0,0),(1,1),(2,2)] 3 (by decide) ?_ ?_ (ihC (n + 1) (show ds.length - (n + 1) < ds.length - n from by omega) (show (n + 1)≤ds.length from by omega)))⟩
      ·exact aU (lR rfl) (aU (lR rfl) (aU (lR rfl) (aU (lR rfl) (aU (lR rfl) (aU (lR rfl) (aU (lR rfl) (aU (lI rfl) (aU (lI rfl) (aU (lI rfl) aM)))))))))
      ·exact aU (kR rfl) (aU (kP rfl ‹_›) (aU (kP rfl (bdsC_pure _)) aM))
     case' false =>
      refine Wq<|Wq<|Wd 74 88 (by decide) rfl mixed rfl<|qM rfl<|qM rfl<|Od rfl rfl (LO.len rfl rfl ty31)<|qK rfl<|qM rfl<|gM rfl ‹_›<|gM rfl ‹_›<|qU rfl ‹_› rfl (Ia rfl rfl rfl rfl ty31 ty161 (by omega))<|gF rfl ‹_› ty161 rfl<|gG rfl ‹_› ty54 rfl htn0<|gG rfl ‹_› ty54 rfl (Tl rfl)<|gY rfl ‹_› (hcm) fok94 rfl<|gK rfl ‹_›<|qT rfl ‹_› rfl<|Nl ⟨by kernel_rfl,(Wo rfl ‹_›<|Wx ?_)⟩
    case' neg =>
     have g3:decide ((n:Int) < (ds.length:Int))=false:=decide_eq_false (by omega)
     refine Wq<|Wq<|Wd 74 88 (by decide) rfl mixed rfl<|qM rfl<|qM rfl<|Od rfl rfl (LO.len rfl rfl ty31)<|qK rfl<|qM rfl<|qD rfl ‹_› rfl<|qD rfl ‹_› rfl<|qD rfl ‹_› rfl<|qD rfl ‹_› rfl<|qD rfl ‹_› rfl<|qD rfl ‹_› rfl<|qD rfl ‹_› rfl<|qD rfl ‹_› rfl<|qP rfl ‹_› rfl<|Nl ⟨by kernel_rfl,(Wo rfl rfl<|Wx ?_)⟩
    all_goals
     clear ihC
     have h6:=hm6 _ (List.getElem_mem (show 0 < macs.length by omega))
     have hmt:=macs_tk hm6 (show 0 < macs.length by omega)
     have hmh:macOf ⟨id,sw,sp,macs,v4,v6⟩=macs[0]'(by omega):=by
      unfold macOf
      match macs,hnm with
      | x::l,_=>rfl
     generalize macs[0]'(by omega)=mc at hmt hmh h6
     obtain ⟨a0,a1,a2,a3,a4,a5,rfl⟩:∃ a0 a1 a2 a3 a4 a5,mc=[a0,a1,a2,a3,a4,a5]:=by
      match mc,h6 with
      | [a0,a1,a2,a3,a4,a5],_=>exact ⟨_,_,_,_,_,_,rfl⟩
     obtain ⟨t1,t2⟩:=bds_split hmd ‹n≤ds.length›
     have hmt':MacOk (ds.take n):=fun b hb=>hmd b (List.mem_of_mem_take hb)
     have hln:(ds.take n).length=n - 0:=by rw [List.length_take];omega
     have ta:=bds_all hmt'
     rw [hln] at ta
     have hnd:MacOk (ds.take n++[⟨a,[a0,a1,a2,a3,a4,a5],id⟩]):=fun b hb=>by
      rcases List.mem_append.1 hb with h|h
      ·exact hmt' b h
      ·simp at h;rw [h];rfl
     have tb:=bds_all hnd
     rw [List.length_append,hln,show bdsC (ds.take n++[⟨a,[a0,a1,a2,a3,a4,a5],id⟩])=bdsC (ds.take n)++bdC ⟨a,[a0,a1,a2,a3,a4,a5],id⟩ from by simp [bdsC]] at tb
     refine Wd 99 118 (by decide) rfl mixed rfl<|qM rfl<|qM rfl<|Od rfl rfl (LO.slice rfl rfl Bnd.no (Ba rfl rfl) (by omega) (by omega) ty31 ty161)<|Od rfl rfl (Lan rfl rfl (Sso rfl rfl (show Tk (bdsC ds) (0 + 0 * 10) ((n - 0) * 10) (bdsC (ds.take n)) from t1)) ty31 ty31 ty161 (by decide) (by omega) (by omega) (by decide))<|qG rfl ty54 rfl (Tl rfl)<|qF rfl ty157 rfl<|qL rfl ty36 rfl<|qJ rfl rfl ty36 ty23 (by simp;omega)<|Od rfl rfl (Lg rfl rfl ty23 rfl hmt)<|qF rfl ty157 rfl<|qL rfl ty3 rfl<|Od rfl rfl (Bs rfl ty161 (.cons rfl rfl rfl rfl (Sl rfl) (.cons rfl rfl rfl rfl (Sl rfl) (.cons rfl rfl rfl rfl (Sl rfl) .nil))))<|Od rfl rfl (LO.buildSlice rfl ty31 ty161 (by decide) (by decide) (.cons rfl rfl rfl rfl (Sl rfl) .nil))<|Od rfl rfl (Lap rfl rfl (Sso rfl rfl (Tl rfl)) rfl ta ty31 ty31 ty161 (by decide) (by omega) (by omega) (by decide))<|qM rfl<|qM rfl<|Od rfl rfl (LO.slice rfl rfl (Ba rfl rfl) Bnd.no (by omega) (by omega) ty31 ty161)<|Od rfl rfl (Lap rfl rfl (Sso rfl rfl (show Tk (bdsC ds) (0 + n * 10) ((ds.length - n) * 10) (bdsC (ds.drop n)) from by rw [Nat.zero_add];exact t2)) rfl tb ty31 ty31 ty161 (by decide) (by omega) (by omega) (by decide))<|qA rfl<|Nl ⟨by kernel_rfl,?_⟩
     rw [show (bdsC (ds.take n)++bdC ⟨a,[a0,a1,a2,a3,a4,a5],id⟩)++bdsC (ds.drop n)=bdsC (ds.take n++⟨a,[a0,a1,a2,a3,a4,a5],id⟩::ds.drop n) from by simp [bdsC,bdC,adC,bytesC],show n - 0 + 1 + (ds.length - n)=(ds.take n++(⟨a,[a0,a1,a2,a3,a4,a5],id⟩:Bd)::ds.drop n).length from by rw [List.length_append,hln,List.length_cons,List.length_drop];omega]
     refine qW 122 124 rfl<|qZ rfl (iW _ (by omega))<|qM rfl<|Nl ?_
     have hperm:List.Perm (ds.take n++(⟨a,[a0,a1,a2,a3,a4,a5],id⟩:Bd)::ds.drop n) (bdsOf (ps.take i)++bdsAt ⟨id,sw,sp,macs,v4,v6⟩ ((W2.take (k + 1)).flatMap ad1)):=by
      refine (List.perm_middle).trans ?_
      rw [List.take_append_drop,hwk,ha1]
      have e:bdsAt ⟨id,sw,sp,macs,v4,v6⟩ ((W2.take k).flatMap ad1++[a])=bdsAt ⟨id,sw,sp,macs,v4,v6⟩ ((W2.take k).flatMap ad1)++[⟨a,[a0,a1,a2,a3,a4,a5],id⟩]:=by
       unfold bdsAt
       rw [List.map_append,hmh]
       rfl
      rw [e,← List.append_assoc]
      exact (List.perm_append_comm (l₁:=[_])).trans (hpd.append_right _)
     have hmo3:MacOk (ds.take n++(⟨a,[a0,a1,a2,a3,a4,a5],id⟩:Bd)::ds.drop n):=fun b hb=>by
      rcases List.mem_append.1 hb with h|h
      ·exact hmt' b h
      ·rcases List.mem_cons.1 h with h|h
       ·rw [h];rfl
       ·exact hmd b (List.mem_of_mem_drop h)
     refine WL.rename [(0,116),(1,1)] 2 (by decide) ?_ ?_ (ihB ((k + 1),(ds.take n++(⟨a,[a0,a1,a2,a3,a4,a5],id⟩:Bd)::ds.drop n)) (show 2 - (k + 1) < 2 - k from by omega) (show (k + 1)≤2∧MacOk (ds.take n++(⟨a,[a0,a1,a2,a3,a4,a5],id⟩:Bd)::ds.drop n)∧List.Perm (ds.take n++(⟨a,[a0,a1,a2,a3,a4,a5],id⟩:Bd)::ds.drop n) (bdsOf (ps.take i)++bdsAt ⟨id,sw,sp,macs,v4,v6⟩ ((W2.take (k + 1)).flatMap ad1))∧(ds.take n++(⟨a,[a0,a1,a2,a3,a4,a5],id⟩:Bd)::ds.drop n).length≤2 * i + (k + 1) from ⟨by omega,hmo3,hperm,by rw [List.length_append,hln,List.length_cons,List.length_drop];omega⟩))
     ·exact aU (lR rfl) (aU (lR rfl) (aU (lR rfl) (aU (lR rfl) (aU (lR rfl) (aU (lR rfl) (aU (lI rfl) (aU (lI rfl) aM)))))))
     ·exact aU (kP rfl ‹_›) (aU (kP rfl (bdsC_pure _)) aM)
   ·have ha1:ad1 a=[]:=by unfold ad1;rw [hz];rfl
    rw [ha1,List.append_nil] at hwk
    refine Wq<|Wq<|qW 56 65 rfl<|qG rfl ty54 rfl (Tl rfl)<|Od rfl rfl (Bs rfl ty54 .nil)<|Od rfl rfl (LO.eql_adz a rfl rfl rfl)<|qM rfl<|qD rfl ‹_› rfl<|qD rfl ‹_› rfl<|qD rfl ‹_› rfl<|qD rfl ‹_› rfl<|qT rfl ‹_› rfl<|Nl<|Wt rfl rfl<|Wx<|qW 122 124 rfl<|qZ rfl (iW _ (by omega))<|qM rfl<|Nl<|WL.rename [(0,0),(1,1)] 2 (by decide) ?_ ?_ (ihB ((k + 1),ds) (show 2 - (k + 1) < 2 - k from by omega) (show (k + 1)≤2∧MacOk ds∧List.Perm ds (bdsOf (ps.take i)++bdsAt ⟨id,sw,sp,macs,v4,v6⟩ ((W2.take (k + 1)).flatMap ad1))∧ds.length≤2 * i + (k + 1) from ⟨by omega,hmd,by rw [hwk];exact hpd,by omega⟩))
    ·exact aU (lR rfl) (aU (lR rfl) (aU (lR rfl) (aU (lR rfl) (aU (lR rfl) (aU (lR rfl) (aU (lI rfl) (aU (lI rfl) aM)))))))
    ·exact aU (kP rfl ‹_›) (aU (kP rfl (bdsC_pure _)) aM)
  ·have g2:decide ((k:Int) < 2)=false:=decide_eq_false (by omega)
   refine Wq<|qW 43 44 rfl<|qK rfl<|Nl<|Wq<|Wo rfl ‹_›<|Wx ?_
   clear ihB
   obtain rfl:k=2:=by omega
   rw [show W2.take 2=W2 from by rw [← hw2,List.take_length],← hbo] at hpd
   refine qW 128 130 rfl<|qZ rfl (iW _ (by omega))<|qM rfl<|Nl<|WL.rename [(0,0)] 1 (by decide) ?_ ?_ (ihA ((i + 1),ds) (show ps.length - (i + 1) < ps.length - i from by omega) (show (i + 1)≤ps.length∧MacOk ds∧List.Perm ds (bdsOf (ps.take (i + 1)))∧ds.length≤2 * (i + 1) from ⟨by omega,hmd,hpd,by omega⟩))
   ·exact aU (lR rfl) (aU (lR rfl) (aU (lR rfl) (aU (lI rfl) aM)))
   ·exact aU (kP rfl (bdsC_pure _)) aM
 ·have g1:decide ((i:Int) < (ps.length:Int))=false:=decide_eq_false (by omega)
  refine Wq<|qW 19 20 rfl<|qK rfl<|Nl<|Wq<|Wo rfl ‹_›<|Wx ?_
  clear ihA
  obtain rfl:i=ps.length:=by omega
  rw [List.take_length] at hpm
  refine Wq<|qW 134 136 rfl<|qM rfl<|qA rfl<|Nl<|Wy (t:=2) rfl rfl (bds_all hmo) (bdsC_pure _)<|Wz ⟨.inl rfl,_,mt,(Rc (Rt rfl) Rv),aM,?_⟩
  exact ⟨bs,⟨hpm,hmo⟩,rfl,rfl⟩
def hi8 (n:Int):Int:=IntKind.u8.wrap (n.fdiv (2 ^ (min (8:Int).toNat IntKind.i64.bits)))
def putL (n:Int):List Int:=[hi8 n,IntKind.u8.wrap n]
theorem u8_bd (n:Int):0≤IntKind.u8.wrap n∧IntKind.u8.wrap n≤255:=by rw [IntKind.wrap_u8'];omega
theorem putL_isB (n:Int):IsB (putL n):=fun x hx=>by
 simp only [putL,List.mem_cons,List.not_mem_nil,or_false] at hx
 rcases hx with rfl|rfl
 ·exact u8_bd _
 ·exact u8_bd _
theorem put_nil (n:Int):AFn Tryz.prog 198 0 [.nils,.base (.int .i64 n)] mt (.osl 0 0 2 1) (up mt 0 (some (bytesC (putL n)))):=by
 refine AFn.eq Tryz.func198 rfl rfl (Nat.le_of_ble_eq_true rfl)<|Wq<|qW 0 1 rfl<|qA rfl<|Nl<|Wq<|qW 5 14 rfl<|qM rfl<|qM rfl<|Od rfl rfl (LO.shr rfl rfl rfl (by omega))<|Od rfl rfl (LO.conv rfl rfl ty3 ty5)<|qM rfl<|Od rfl rfl (LO.conv rfl rfl ty3 ty5)<|Od rfl rfl (LO.buildSlice rfl ty24 ty5 (by decide) (by decide) (.cons rfl rfl rfl rfl (Sl rfl) (.cons rfl rfl rfl rfl (Sl rfl) .nil)))<|Od rfl rfl (Lan rfl rfl (Sso rfl rfl (Tl rfl)) ty24 ty24 ty5 (by decide) (by omega) (by omega) (by decide))<|qA rfl<|Nl<|W.rename [(0,12)] 1 (T':=up mt 4 (some (.osl 0 0 (2) 1))) (H':=up mt 0 (some (bytesC (putL n)))) (by decide) ?_ ?_ ?_
 ·exact aU (lI rfl) aM
 ·exact aU (kR rfl) aM
 refine Wz ⟨.inl rfl,_,up mt 0 (some (bytesC (putL n))),Rc (Rt rfl) Rv,aU rfl aM,?_⟩
 exact ⟨rfl,rfl⟩
theorem put_any (l:List Int) (n:Int) (hl:l.length≤1000000):AFn Tryz.prog 198 1 [.osl 0 0 l.length 1,.base (.int .i64 n)] (up mt 0 (some (bytesC l))) (.osl 1 0 (l.length + 2) 1) (up mt 1 (some (bytesC (l++putL n)))):=by
 refine AFn.eq Tryz.func198 rfl rfl (Nat.le_of_ble_eq_true rfl)<|Wq<|qW 1 2 rfl<|qA rfl<|Nl<|Wq<|qW 6 15 rfl<|qM rfl<|qM rfl<|Od rfl rfl (LO.shr rfl rfl rfl (by omega))<|Od rfl rfl (LO.conv rfl rfl ty3 ty5)<|qM rfl<|Od rfl rfl (LO.conv rfl rfl ty3 ty5)<|Od rfl rfl (LO.buildSlice rfl ty24 ty5 (by decide) (by decide) (.cons rfl rfl rfl rfl (Sl rfl) (.cons rfl rfl rfl rfl (Sl rfl) .nil)))<|Od rfl rfl (Lap rfl rfl (Sso rfl rfl (Tl rfl)) rfl (bytes_tk rfl) ty24 ty24 ty5 (by decide) (by omega) (by omega) (by decide))<|qA rfl<|Nl ?_
 rw [show bytesC l++[AV.base (.int .u8 (IntKind.u8.wrap (n.fdiv (2 ^ (min (8:Int).toNat IntKind.i64.bits))))),AV.base (.int .u8 (IntKind.u8.wrap n))]=bytesC (l++putL n) from by rw [bytesC_app];rfl]
 refine W.rename [(0,0),(1,13)] 2 (T':=up mt 4 (some (.osl 1 0 (l.length + 2) 1))) (H':=up mt 1 (some (bytesC (l++putL n)))) (by decide) ?_ ?_ ?_
 ·exact aU (lI rfl) aM
 ·exact aU (kP rfl (bytesC_pure _)) aM
 refine Wz ⟨.inl rfl,_,up mt 1 (some (bytesC (l++putL n))),Rc (Rt rfl) Rv,aU rfl aM,?_⟩
 exact ⟨rfl,rfl⟩
theorem i64_or {x y:Int} (hx:0≤x∧x≤255) (hy:0≤y∧y≤255):bitV .or .i64 (x * 256) y=x * 256 + y:=by
 obtain ⟨a,rfl⟩:=Int.eq_ofNat_of_zero_le hx.1
 obtain ⟨b,rfl⟩:=Int.eq_ofNat_of_zero_le hy.1
 have e1:(BitVec.ofInt IntKind.i64.bits ((a:Int) * 256) ||| BitVec.ofInt IntKind.i64.bits (b:Int)).toNat=a * 256 + b:=by
  rw [BitVec.toNat_or]
  have a1:(BitVec.ofInt IntKind.i64.bits ((a:Int) * 256)).toNat=2 ^ 8 * a:=by
   simp only [BitVec.toNat_ofInt,IntKind.bits];omega
  have a2:(BitVec.ofInt IntKind.i64.bits (b:Int)).toNat=b:=by
   simp only [BitVec.toNat_ofInt,IntKind.bits];omega
  rw [a1,a2,← Nat.two_pow_add_eq_or_of_lt (i:=8) (by omega) a]
  omega
 show IntKind.i64.wrap ((BitVec.ofInt IntKind.i64.bits ((a:Int) * 256) ||| BitVec.ofInt IntKind.i64.bits (b:Int)).toNat:Nat)=_
 rw [e1,IntWalk.i64_in _ (by omega)]
 omega
theorem get_any (l:List Int) (hB:IsB l) (h2:2≤l.length):AFn Tryz.prog 176 0 [.isl (bytesC l) l.length] mt (.base (.int .i64 (gB l 0 * 256 + gB l 1))) mt:=by
 refine AFn.eq Tryz.func176 rfl rfl (Nat.le_of_ble_eq_true rfl) ?_
 have b0:=hB.at 0
 have b1:=hB.at 1
 refine Wq<|qW 0 1 rfl<|qA rfl<|Nl ?_
 have hsh:IntKind.i64.wrap (gB l 0 * 2 ^ (min (8:Int).toNat IntKind.i64.bits))=gB l 0 * 256:=by
  rw [show (2:Int) ^ (min (8:Int).toNat IntKind.i64.bits)=256 from by decide];exact IntWalk.i64_in _ (by omega)
 have hor:=i64_or b0 b1
 refine Wq<|Wd 5 16 (by decide) rfl mixed rfl<|qM rfl<|qJ rfl rfl ty24 ty5 (by simp;omega)<|Od rfl rfl (Li rfl rfl (by_at (k:=0) (by omega)) ty5 rfl)<|Od rfl rfl (Ci rfl rfl ty5 ty3 (iW _ (by omega)))<|Od rfl rfl (LO.shl rfl rfl rfl (by omega)) ?_
 rw [hsh]
 refine qM rfl<|qJ rfl rfl ty24 ty5 ‹_›<|Od rfl rfl (Li rfl rfl (by_at (k:=1) (by omega)) ty5 rfl)<|Od rfl rfl (Ci rfl rfl ty5 ty3 (iW _ (by omega)))<|Od rfl rfl (LO.or rfl rfl rfl) ?_
 rw [hor]
 refine qA rfl<|Nl ⟨by kernel_rfl,(Wz ⟨.inl rfl,_,mt,Rc (Rt rfl) (Rv),aM,?_⟩)⟩
 exact ⟨rfl,rfl⟩
def macF (n:Int):List Int:=[2,0,IntKind.u8.wrap (n.fdiv (2 ^ (min (24:Int).toNat IntKind.i64.bits))),IntKind.u8.wrap (n.fdiv (2 ^ (min (16:Int).toNat IntKind.i64.bits))),IntKind.u8.wrap (n.fdiv (2 ^ (min (8:Int).toNat IntKind.i64.bits))),IntKind.u8.wrap n]
theorem macF_isB (n:Int):IsB (macF n):=fun x hx=>by
 simp only [macF,List.mem_cons,List.not_mem_nil,or_false] at hx
 rcases hx with rfl|rfl|rfl|rfl|rfl|rfl
 ·decide
 ·decide
 ·exact u8_bd _
 ·exact u8_bd _
 ·exact u8_bd _
 ·exact u8_bd _
theorem mac_any (n:Int):AFn Tryz.prog 130 0 [.base (.int .i64 n)] mt (.agg (bytesC (macF n))) mt:=by
 refine AFn.eq Tryz.func130 rfl rfl (Nat.le_of_ble_eq_true rfl)<|Wq<|qW 0 1 rfl<|qB rfl ty23<|Nl<|Wq<|qW 5 18 rfl<|qM rfl<|Od rfl rfl (LO.shr rfl rfl rfl (by omega))<|Od rfl rfl (LO.conv rfl rfl ty3 ty5)<|qM rfl<|Od rfl rfl (LO.shr rfl rfl rfl (by omega))<|Od rfl rfl (LO.conv rfl rfl ty3 ty5)<|qM rfl<|Od rfl rfl (LO.shr rfl rfl rfl (by omega))<|Od rfl rfl (LO.conv rfl rfl ty3 ty5)<|qM rfl<|Od rfl rfl (LO.conv rfl rfl ty3 ty5)<|Od rfl rfl (LO.build_ar rfl ty23 ty5 (.cons rfl rfl rfl rfl (Sl rfl) (.cons rfl rfl rfl rfl (Sl rfl) (.cons rfl rfl rfl rfl (Sl rfl) (.cons rfl rfl rfl rfl (Sl rfl) (.cons rfl rfl rfl rfl (Sl rfl) (.cons rfl rfl rfl rfl (Sl rfl) .nil)))))))<|qS rfl ty23 (Sl rfl) rfl<|Nl<|Wz ⟨.inl rfl,_,mt,(Rc (Ra0 rfl rfl ty23 rfl (Tl rfl)) Rv),aM,?_⟩
 exact ⟨rfl,rfl⟩
def lsC (L:List (List Int)):List AV:=L.map fun l=>.isl (bytesC l) l.length
theorem lsC_pure (L:List (List Int)):(lsC L).all AV.pure1=true:=by
 induction L with
 | nil=>rfl
 | cons x l ih=>rw [show lsC (x::l)=[.isl (bytesC x) x.length]++lsC l from rfl,List.all_append,ih];rfl
theorem ls_at {L:List (List Int)} {k:Nat} (h:k < L.length):(lsC L)[k * 1]?=some (.isl (bytesC L[k]) L[k].length):=by simp [lsC,h]
theorem ls_tk1 {L:List (List Int)}:Tk (lsC L) (1 * 1) ((L.length - 1) * 1) (lsC (L.drop 1)):=by
 refine ⟨by simp [lsC],fun j c hj=>?_⟩
 simp only [lsC,List.map_drop,List.getElem?_drop] at hj
 exact hj
theorem flat_take {L:List (List Int)} {k:Nat} (h:k < L.length):(L.take (k + 1)).flatten=(L.take k).flatten++L[k]:=by
 rw [List.take_add_one,List.flatten_append]
 simp [h]
theorem flat_le {L:List (List Int)} (k:Nat):(L.take k).flatten.length≤L.flatten.length:=by
 have:L.flatten=(L.take k).flatten++(L.drop k).flatten:=by rw [← List.flatten_append,List.take_append_drop]
 rw [this,List.length_append];omega
set_option maxHeartbeats 1000000 in
theorem join_any (L:List (List Int)) (h2:2≤L.length) (h3:L.length≤1000) (hf0:1≤L.flatten.length) (hf:L.flatten.length≤1000000) (hh:1≤(L[0]'(by omega)).length):AFn Tryz.prog 197 0 [.isl (lsC L) L.length,.nils] mt (.osl 0 0 L.flatten.length 1) (up mt 0 (some (bytesC L.flatten))):=by
 refine AFn.eq Tryz.func197 rfl rfl (Nat.le_of_ble_eq_true rfl) ?_
 have g0:((L.length:Int) == 0)=false:=beq_eq_false_iff_ne.2 (by omega)
 have g1:((L.length:Int) == 1)=false:=beq_eq_false_iff_ne.2 (by omega)
 refine Wq<|qW 0 1 rfl<|qA rfl<|Nl<|Wq<|Wq<|qW 5 8 rfl<|qM rfl<|qH rfl ty182<|qE rfl<|Nl<|Wo rfl ‹_›<|Wu<|Wq<|Wq<|qW 18 21 rfl<|qM rfl<|qH rfl ty182<|qE rfl<|Nl<|Wo rfl ‹_›<|Wu<|Wq<|qW 34 35 rfl<|qA rfl<|Nl<|Wq<|Wq<|qW 39 42 rfl<|qM rfl<|qH rfl ty24<|qGt rfl<|Nl<|Wo rfl rfl<|Wu<|Wq<|Wq<|qW 76 79 rfl<|qM rfl<|qH rfl ty182<|qM rfl<|Nl<|Wb<|W.loop_keep (α:=Nat) (fun x=>L.length - x) 0 (fun x=>[(5,.base (.int .i64 ((L.take x).flatten.length:Int))),(44,.base (.int .i64 (x:Int)))]) (fun x=>mt) (fun x=>x≤L.length) 0 [] (.cons (t:=0) rfl (by exact .inl rfl) (.cons (t:=1) rfl (by exact .inl rfl) (.cons (t:=42) rfl (by exact .inl rfl) (.cons (t:=43) rfl (by exact .inl rfl) .nil)))) (show 0≤L.length from Nat.zero_le _) (by decide) ?_ ?_ ?_
 ·exact lC (lR rfl) (lC (lR rfl) lN)
 ·exact aM
 rintro i hIA ihA
 try (dsimp only at hIA)
 try dsimp only [baseT,List.cons_append,List.nil_append]
 have hfl:=flat_le (L:=L) i
 by_cases hc:i < L.length
 ·have g2:decide ((i:Int) < (L.length:Int))=true:=decide_eq_true (by omega)
  have hfl2:=flat_le (L:=L) (i + 1)
  have hn:=flat_take hc
  have hnl:(L.take (i + 1)).flatten.length=(L.take i).flatten.length + L[i].length:=by rw [hn,List.length_append]
  have g3:decide ((L[i].length:Int) > 9223372036854775807 - ((L.take i).flatten.length:Int))=false:=decide_eq_false (by omega)
  refine Wq<|qW 83 84 rfl<|qK rfl<|Nl<|Wq<|Wt rfl ‹_›<|Wu<|Wq<|Wb<|Wq<|qW 88 91 rfl<|qJ rfl rfl ty182 ty24 (by omega)<|Od rfl rfl (Li rfl rfl (ls_at hc) ty24 rfl)<|qA rfl<|Nl<|Wq<|Wq<|qW 95 100 rfl<|qM rfl<|qH rfl ty24<|qM rfl<|Od rfl rfl (LO.sub_in rfl rfl rfl (iW _ (by omega)))<|qGt rfl<|Nl<|Wo rfl ‹_›<|Wu<|qW 110 115 rfl<|qM rfl<|qM rfl<|qH rfl ty24<|qZ rfl (iW _ (by omega))<|qA rfl<|Nl<|qW 119 121 rfl<|qZ rfl (iW _ (by omega))<|qM rfl<|Nl ?_
  rw [show (((L.take i).flatten.length:Int) + (L[i].length:Int))=((L.take (i + 1)).flatten.length:Int) from by rw [hnl];omega]
  refine WL.renameL [] 0 (by decide) ?_ ?_ (ihA (i + 1) (show L.length - (i + 1) < L.length - i from by omega) (show (i + 1)≤L.length from by omega))
  ·exact lC (lR rfl) (lC (lR rfl) (lC (lR rfl) (lC (lR rfl) (lC (lR rfl) (lC (lR rfl) lN)))))
  ·exact aM
 ·have g2:decide ((i:Int) < (L.length:Int))=false:=decide_eq_false (by omega)
  refine Wq<|qW 83 84 rfl<|qK rfl<|Nl<|Wq<|Wo rfl ‹_›<|Wx ?_
  obtain rfl:i=L.length:=by omega
  rw [List.take_length]
  refine Wq<|qW 125 131 rfl<|qM rfl<|Od rfl rfl (LO.makeNoZero (n:=L.flatten.length) (ps:=#[3]) rfl rfl rfl Tryz.func204 (by kernel_rfl) (by kernel_rfl) (by kernel_rfl) (by kernel_rfl) ty24 (by omega))<|qM rfl<|qM rfl<|Od rfl rfl (LO.slice3 rfl rfl rfl rfl (by omega) ty24 ty5)<|qA rfl<|Nl ?_
  have hcp:Cp ([]:List AV) 0 (bytesC L[0]) (bytesC L[0]):=Cp.app (cs:=[]) rfl
  have hL1:0 < L.length:=by omega
  have hL0:L[0].length≤L.flatten.length:=by
   have:=flat_le (L:=L) 1
   rw [show (L.take 1).flatten=L[0] from by rw [show (1:Nat)=0 + 1 from rfl,flat_take (k:=0) (by omega)];simp] at this
   exact this
  refine Wq<|qW 135 141 rfl<|qM rfl<|qM rfl<|qJ rfl rfl ty182 ty24 (by omega)<|Od rfl rfl (Li rfl rfl (ls_at (k:=0) (by omega)) ty24 rfl)<|Od rfl rfl (LO.copy rfl rfl (Ssi rfl rfl (by simp [bytesC])) rfl hcp ty24 ty24 ty5 (by decide) (by omega) (by omega))<|qA rfl<|Nl<|Wq<|Wq<|qW 145 149 rfl<|qM rfl<|Od rfl rfl (Lsi rfl rfl rfl (Ba rfl rfl) Bnd.no ‹_› (by omega) ty182 ty24 (ls_tk1 (L:=L)))<|qH rfl ty182<|qM rfl<|Nl ?_
  have hdl:(L.drop 1).length=L.length - 1:=by simp
  have hb1:bytesC L[0]=bytesC (L.take (0 + 1)).flatten:=by rw [flat_take (k:=0) (by omega)];simp
  have hl1:(L[0].length:Int)=((L.take (0 + 1)).flatten.length:Int):=by rw [flat_take (k:=0) (by omega)];simp
  rw [hb1,hl1]
  obtain ⟨n,hn⟩:∃ n,L.flatten.length=n:=⟨_,rfl⟩
  rw [hn] at hf0 hf hL0 ⊢
  refine Wb<|W.loop_keep (α:=Nat) (fun x=>L.length - x) 1 (fun x=>[(8,.osl 0 0 n 1),(9,.base (.int .i64 ((L.take (x + 1)).flatten.length:Int))),(72,.base (.int .i64 (x:Int)))]) (fun x=>up mt 0 (some (bytesC (L.take (x + 1)).flatten))) (fun x=>x + 1≤L.length) 0 [(0,126)] (.cons (t:=1) rfl (by exact .inl rfl) (.cons (t:=70) rfl (by exact .inl rfl) (.cons (t:=71) rfl (by exact .inl rfl) .nil))) (show 0 + 1≤L.length from by omega) (by decide) ?_ ?_ ?_
  ·exact lC (lI rfl) (lC (lR rfl) (lC (lR rfl) lN))
  ·exact aU (kP rfl (bytesC_pure _)) aM
  rintro i hIB ihB
  try (dsimp only at hIB)
  try dsimp only [baseT,List.cons_append,List.nil_append]
  have hfl:=flat_le (L:=L) (i + 1)
  rw [hn] at hfl
  obtain ⟨acc,hacc⟩:∃ acc,(L.take (i + 1)).flatten=acc:=⟨_,rfl⟩
  rw [hacc] at hfl ⊢
  by_cases hc:i < L.length - 1
  ·have g5:decide ((i:Int) < ((L.length - 1:Nat):Int))=true:=decide_eq_true (by omega)
   have hft:=flat_take (L:=L) (k:=i + 1) (by omega)
   have hfl2:=flat_le (L:=L) (i + 1 + 1)
   obtain ⟨p,hp⟩:∃ p,L[i + 1]=p:=⟨_,rfl⟩
   rw [hacc,hp] at hft
   rw [hn,hft,List.length_append] at hfl2
   have hat:(lsC (L.drop 1))[i * 1]?=some (.isl (bytesC p) p.length):=by
    rw [ls_at (by rw [hdl];exact hc)]
    have e:(L.drop 1)[i]'(by rw [hdl];exact hc)=p:=by rw [← hp,List.getElem_drop];congr 1;omega
    rw [e]
   refine Wq<|qW 153 154 rfl<|qK rfl<|Nl<|Wq<|Wt rfl ‹_›<|Wu<|Wq<|Wb<|Wq<|qW 158 161 rfl<|qJ rfl rfl ty182 ty24 (by omega)<|Od rfl rfl (Li rfl rfl hat ty24 rfl)<|qA rfl<|Nl<|Wq<|qW 165 173 rfl<|qM rfl<|qM rfl<|qM rfl<|Od rfl rfl (LO.slice rfl rfl (Ba rfl rfl) Bnd.no (by omega) (by omega) ty24 ty5)<|qM rfl<|Od rfl rfl (LO.copy_nil rfl rfl rfl rfl ty24 ty5)<|qZ rfl (iW _ (by omega))<|qA rfl<|Nl ?_
   rw [Int.add_zero]
   rcases Nat.eq_zero_or_pos p.length with hz|hz
   ·obtain rfl:p=[]:=List.eq_nil_of_length_eq_zero hz
    rw [List.append_nil] at hft
    refine qW 177 185 rfl<|qM rfl<|qM rfl<|qM rfl<|Od rfl rfl (LO.slice rfl rfl (Ba rfl rfl) Bnd.no (by omega) (by omega) ty24 ty5)<|qM rfl<|Od rfl rfl (LO.copy_nil rfl rfl rfl rfl ty24 ty5)<|qZ rfl (iW _ (by omega))<|qA rfl<|Nl ?_
    rw [Int.add_zero]
    rw [← hft]
    refine qW 189 191 rfl<|qZ rfl (iW _ (by omega))<|qM rfl<|Nl<|WL.renameL [(0,0)] 1 (by decide) ?_ ?_ (ihB (i + 1) (show L.length - (i + 1) < L.length - i from by omega) (show (i + 1) + 1≤L.length from by omega))
    ·exact lC (lI rfl) (lC (lR rfl) (lC (lR rfl) (lC (lR rfl) (lC (lR rfl) (lC (lR rfl) lN)))))
    ·exact aU (kP rfl (bytesC_pure _)) aM
   ·have hcp:Cp (bytesC acc) (0 + acc.length * 1) (bytesC p) (bytesC acc++bytesC p):=Cp.app (by rw [bytesC_len];omega)
    refine qW 177 185 rfl<|qM rfl<|qM rfl<|qM rfl<|Od rfl rfl (LO.slice rfl rfl (Ba rfl rfl) Bnd.no (by omega) (by omega) ty24 ty5)<|qM rfl<|Od rfl rfl (LO.copy rfl rfl (Ssi rfl rfl (by simp [bytesC])) rfl hcp ty24 ty24 ty5 (by decide) (by omega) (by omega))<|qZ rfl (iW _ (by omega))<|qA rfl<|Nl ?_
    rw [← bytesC_app,← hft,show (acc.length:Int) + (p.length:Int)=((L.take (i + 1 + 1)).flatten.length:Int) from by rw [hft,List.length_append];omega]
    refine qW 189 191 rfl<|qZ rfl (iW _ (by omega))<|qM rfl<|Nl<|WL.renameL [(0,0)] 1 (by decide) ?_ ?_ (ihB (i + 1) (show L.length - (i + 1) < L.length - i from by omega) (show (i + 1) + 1≤L.length from by omega))
    ·exact lC (lI rfl) (lC (lR rfl) (lC (lR rfl) (lC (lR rfl) (lC (lR rfl) (lC (lR rfl) lN)))))
    ·exact aU (kP rfl (bytesC_pure _)) aM
  ·have g5:decide ((i:Int) < ((L.length - 1:Nat):Int))=false:=decide_eq_false (by omega)
   have he:acc=L.flatten:=by rw [← hacc,show i + 1=L.length from by omega,List.take_length]
   refine Wq<|qW 153 154 rfl<|qK rfl<|Nl<|Wq<|Wo rfl ‹_›<|Wx ?_
   subst he
   refine Wq<|qW 195 197 rfl<|qM rfl<|qA rfl<|Nl<|W.rename [(0,0)] 1 (T':=up mt 4 (some (.osl 0 0 (n) 1))) (H':=up mt 0 (some (bytesC L.flatten))) (by decide) ?_ ?_ ?_
   ·exact aU (lI rfl) aM
   ·exact aU (kP rfl (bytesC_pure _)) aM
   refine Wz ⟨.inl rfl,_,up mt 0 (some (bytesC L.flatten)),Rc (Rt rfl) Rv,aU rfl aM,?_⟩
   exact ⟨rfl,rfl⟩
theorem put_isl (l:List Int) (n:Int) (hl:l.length≤1000000):AFn Tryz.prog 198 1 [.osl 0 0 l.length 1,.base (.int .i64 n)] (up mt 0 (some (bytesC l))) (.isl (bytesC (l++putL n)) (l.length + 2)) mt:=by
 refine AFn.eq Tryz.func198 rfl rfl (Nat.le_of_ble_eq_true rfl)<|Wq<|qW 1 2 rfl<|qA rfl<|Nl<|Wq<|qW 6 15 rfl<|qM rfl<|qM rfl<|Od rfl rfl (LO.shr rfl rfl rfl (by omega))<|Od rfl rfl (LO.conv rfl rfl ty3 ty5)<|qM rfl<|Od rfl rfl (LO.conv rfl rfl ty3 ty5)<|Od rfl rfl (LO.buildSlice rfl ty24 ty5 (by decide) (by decide) (.cons rfl rfl rfl rfl (Sl rfl) (.cons rfl rfl rfl rfl (Sl rfl) .nil)))<|Od rfl rfl (Lap rfl rfl (Sso rfl rfl (Tl rfl)) rfl (bytes_tk rfl) ty24 ty24 ty5 (by decide) (by omega) (by omega) (by decide))<|qA rfl<|Nl ?_
 rw [show bytesC l++[AV.base (.int .u8 (IntKind.u8.wrap (n.fdiv (2 ^ (min (8:Int).toNat IntKind.i64.bits))))),AV.base (.int .u8 (IntKind.u8.wrap n))]=bytesC (l++putL n) from by rw [bytesC_app];rfl]
 refine Wy (t:=4) rfl rfl (bytes_tk (by rw [List.length_append];rfl)) (bytesC_pure _)<|Wz ⟨.inl rfl,_,mt,Rc (Rt rfl) (Rv),aM,?_⟩
 exact ⟨rfl,rfl⟩
def len4 (n:Nat):List Int:=[0,(n:Int) / 65536 % 256,(n:Int) / 256 % 256,(n:Int) % 256]
theorem sh_i64 (n:Nat) (k:Nat) (hk:k < 64):(n:Int).fdiv (2 ^ (min (k:Int).toNat IntKind.i64.bits))=(n:Int) / 2 ^ k:=by
 rw [Int.toNat_natCast,Nat.min_eq_left (show k≤IntKind.i64.bits from by show _≤64;omega),Int.fdiv_eq_ediv_of_nonneg _ (Int.le_of_lt (Int.pow_pos (by decide)))]
theorem put_len4 {n:Nat} (h:n < 16777216):putL ((n:Int).fdiv (2 ^ (min (16:Int).toNat IntKind.i64.bits)))++putL n=len4 n:=by
 have e16:=sh_i64 n 16 (by decide)
 have e8:=sh_i64 n 8 (by decide)
 have e8':=sh_i64 (n / 65536) 8 (by decide)
 simp only [putL,hi8,len4]
 rw [show ((16:Nat):Int)=16 from rfl] at e16
 rw [show ((8:Nat):Int)=8 from rfl] at e8 e8'
 rw [e16,show (n:Int) / 2 ^ 16=((n / 65536:Nat):Int) from by omega,e8',e8,IntKind.wrap_u8',IntKind.wrap_u8',IntKind.wrap_u8',IntKind.wrap_u8']
 simp only [List.cons_append,List.nil_append,List.cons.injEq,and_true]
 omega
def chkParts (s d:Ad) (p:Int) (l:List Int):List (List Int):=[addrL s,addrL d,len4 l.length,[0,0,0,IntKind.u8.wrap p],l]
def chkB (s d:Ad) (p:Int) (l:List Int):List Int:=(chkParts s d p l).flatten
def chkF (s d:Ad) (p:Int) (l:List Int):Int:=sumL (chkB s d p l)
theorem chkB_eq (s d:Ad) (p:Int) (l:List Int):chkB s d p l=addrL s++addrL d++(len4 l.length++[0,0,0,IntKind.u8.wrap p])++l:=by simp [chkB,chkParts]
theorem len4_isB (n:Nat):IsB (len4 n):=fun x hx=>by
 simp only [len4,List.mem_cons,List.not_mem_nil,or_false] at hx
 rcases hx with rfl|rfl|rfl|rfl<;>omega
theorem pr_isB (p:Int):IsB [0,0,0,IntKind.u8.wrap p]:=fun x hx=>by
 have:=u8_bd p
 simp only [List.mem_cons,List.not_mem_nil,or_false] at hx
 rcases hx with rfl|rfl|rfl|rfl<;>omega
theorem chkB_isB (s d:Ad) (p:Int) {l:List Int} (hB:IsB l):IsB (chkB s d p l):=by
 rw [chkB_eq]
 exact (((addrL_isB s).append (addrL_isB d)).append ((len4_isB _).append (pr_isB p))).append hB
theorem addrL_pos (a:Ad):1≤(addrL a).length∧(addrL a).length≤16:=by rw [addrL_len];split<;>omega
theorem chkB_len (s d:Ad) (p:Int) (l:List Int):(chkB s d p l).length=(addrL s).length + (addrL d).length + 8 + l.length:=by
 rw [chkB_eq];simp [len4];omega
set_option maxHeartbeats 1000000 in
theorem chk_any (s d:Ad) (p:Int) (l:List Int) (hs:validA s.v6 s.hi s.lo=true) (hd:validA d.v6 d.hi d.lo=true) (s1:U64 s.hi) (s2:U64 s.lo) (d1:U64 d.hi) (d2:U64 d.lo) (hB:IsB l) (hl:l.length≤100000) :
 AFn Tryz.prog 179 0 [.agg (adC s),.agg (adC d),.base (.int .i64 p),.isl (bytesC l) l.length] mt (.base (.int .u16 (chkF s d p l))) mt:=by
 refine AFn.eq Tryz.func179 rfl rfl (Nat.le_of_ble_eq_true rfl) ?_
 have hbs:=(bytes_any s hs s1 s2).frozen (bytes_tk rfl) (bytesC_pure _)
 have hbd:=(bytes_any d hd d1 d2).frozen (bytes_tk rfl) (bytesC_pure _)
 have p1:=addrL_pos s
 have p2:=addrL_pos d
 have hcl:=chkB_len s d p l
 have hsm:=sum_any (chkB s d p l) (chkB_isB s d p hB) (by omega)
 have hj:=join_any (chkParts s d p l) (Nat.le_of_ble_eq_true rfl) (Nat.le_of_ble_eq_true rfl) (show 1≤(chkB s d p l).length by omega) (show (chkB s d p l).length≤1000000 by omega) p1.1
 have hpn:=put_len4 (n:=l.length) (by omega)
 have hpi:=put_isl (putL ((l.length:Int).fdiv (2 ^ (min (16:Int).toNat IntKind.i64.bits)))) (l.length:Int) (Nat.le_of_ble_eq_true rfl)
 rw [hpn] at hpi
 refine Wq<|qW 0 3 rfl<|qC rfl<|qC rfl<|qA rfl<|Nl<|Wq<|qW 7 10 rfl<|qM rfl<|qH rfl ty24<|qA rfl<|Nl<|Wq<|Wd 14 31 (by decide) rfl mixed rfl<|qG rfl ty54 rfl (Tl rfl)<|qY rfl (hbs) fok180 rfl<|qG rfl ty54 rfl (Tl rfl)<|qY rfl (hbd) fok180 rfl<|qM rfl<|Od rfl rfl (LO.shr rfl rfl rfl (by omega))<|Od rfl rfl (LO.callO (fr:=[]) rfl rfl (put_nil _) fok198 (.cons rfl (.pure rfl) (.cons rfl (.pure rfl) .nil)) rfl (by decide))<|qM rfl<|Od rfl rfl (LO.callD (fr:=[]) rfl rfl (hpi) fok198 (.osl rfl rfl (.cons rfl (.pure rfl) .nil)) rfl rfl rfl (Cn _ _) (by decide) (by decide) (by decide))<|qM rfl<|Od rfl rfl (LO.conv rfl rfl ty3 ty5)<|Od rfl rfl (LO.buildSlice rfl ty24 ty5 (by decide) (by decide) (.cons rfl rfl rfl rfl (Sl rfl) (.cons rfl rfl rfl rfl (Sl rfl) (.cons rfl rfl rfl rfl (Sl rfl) (.cons rfl rfl rfl rfl (Sl rfl) .nil)))))<|qM rfl<|Od rfl rfl (LO.buildSlice rfl ty182 ty24 (by decide) (by decide) (.cons rfl rfl rfl rfl (Sl rfl) (.cons rfl rfl rfl rfl (Sl rfl) (.cons rfl rfl rfl rfl (Sl rfl) (.cons rfl rfl rfl rfl (Sl rfl) (.cons rfl rfl rfl rfl (Sl rfl) .nil))))))<|Od rfl rfl (LO.callO (fr:=[27,25]) rfl rfl (hj) fok197 (.cons rfl (.nest (by decide) rfl (Tl rfl) (.cons (.same rfl) (.cons (.same rfl) (.cons (.same rfl) (.cons (.osl (by decide) rfl (Tl rfl) rfl) (.cons (.same rfl) .nil)))))) (.cons rfl (.pure rfl) .nil)) (bytesC_pure _) (by decide))<|Od rfl rfl (C0 (fr:=[28]) rfl rfl (hsm) fok177 (.cons rfl (.one (.osl (by decide) rfl (bytes_tk rfl) (bytesC_pure _))) .nil) rfl)<|qA rfl<|Nl ⟨by kernel_rfl,(Wz ⟨.inl rfl,_,mt,Rc (Rt rfl) (Rv),aM,?_⟩)⟩
 exact ⟨rfl,rfl⟩
theorem ref_len4 {n:Nat} (h:n < 16777216):[IntKind.u8.wrap ((n:Int).fdiv (2 ^ (min (24:Int).toNat IntKind.i64.bits))),IntKind.u8.wrap ((n:Int).fdiv (2 ^ (min (16:Int).toNat IntKind.i64.bits))),IntKind.u8.wrap ((n:Int).fdiv (2 ^ (min (8:Int).toNat IntKind.i64.bits))),IntKind.u8.wrap (n:Int)]=len4 n:=by
 have e24:=sh_i64 n 24 (by decide)
 have e16:=sh_i64 n 16 (by decide)
 have e8:=sh_i64 n 8 (by decide)
 rw [show ((24:Nat):Int)=24 from rfl] at e24
 rw [show ((16:Nat):Int)=16 from rfl] at e16
 rw [show ((8:Nat):Int)=8 from rfl] at e8
 simp only [len4]
 rw [e24,e16,e8,IntKind.wrap_u8',IntKind.wrap_u8',IntKind.wrap_u8',IntKind.wrap_u8']
 simp only [List.cons.injEq,and_true]
 omega
set_option maxHeartbeats 1000000 in
theorem chkX_any (s d:Ad) (p:Int) (l:List Int) (hs:validA s.v6 s.hi s.lo=true) (hd:validA d.v6 d.hi d.lo=true) (s1:U64 s.hi) (s2:U64 s.lo) (d1:U64 d.hi) (d2:U64 d.lo) (hB:IsB l) (hl:l.length≤100000) :
 AFn Tryz.prog 78 0 [.agg (adC s),.agg (adC d),.base (.int .i64 p),.isl (bytesC l) l.length] mt (.base (.int .u16 (chkF s d p l))) mt:=by
 refine AFn.eq Tryz.func78 rfl rfl (Nat.le_of_ble_eq_true rfl) ?_
 have hbs:=bytesX_any s hs s1 s2
 have hbd:=bytesX_any d hd d1 d2
 have p1:=addrL_pos s
 have p2:=addrL_pos d
 have hcl:=chkB_len s d p l
 have hsm:=sumX_any (chkB s d p l) (chkB_isB s d p hB) (by omega)
 have h8:=ref_len4 (n:=l.length) (by omega)
 refine Wq<|qW 0 3 rfl<|qC rfl<|qC rfl<|qA rfl<|Nl<|Wq<|qW 7 10 rfl<|qM rfl<|qH rfl ty24<|qA rfl<|Nl<|Wq<|Wd 14 20 (by decide) rfl mixed rfl<|qG rfl ty54 rfl (Tl rfl)<|Od rfl rfl (LO.callO (fr:=[]) rfl rfl (hbs) fok85 (.cons rfl (.pure rfl) .nil) (bytesC_pure _) (by decide))<|qG rfl ty54 rfl (Tl rfl)<|Od rfl rfl (LO.callO (fr:=[]) rfl rfl (hbd) fok85 (.cons rfl (.pure rfl) .nil) (bytesC_pure _) (by decide))<|Od rfl rfl (Lap rfl rfl (Sso rfl rfl (bytes_tk rfl)) rfl (bytes_tk rfl) ty24 ty24 ty5 (by decide) (by omega) (by omega) (by decide))<|qA rfl<|Nl ⟨by kernel_rfl,?_⟩
 rw [← bytesC_app,← List.length_append]
 have hls:(addrL s++addrL d).length=(addrL s).length + (addrL d).length:=List.length_append
 obtain ⟨X,hX⟩:∃ X,addrL s++addrL d=X:=⟨_,rfl⟩
 rw [hX] at hls ⊢
 refine Wq<|qW 24 41 rfl<|qM rfl<|qM rfl<|Od rfl rfl (LO.shr rfl rfl rfl (by omega))<|Od rfl rfl (LO.conv rfl rfl ty3 ty5)<|qM rfl<|Od rfl rfl (LO.shr rfl rfl rfl (by omega))<|Od rfl rfl (LO.conv rfl rfl ty3 ty5)<|qM rfl<|Od rfl rfl (LO.shr rfl rfl rfl (by omega))<|Od rfl rfl (LO.conv rfl rfl ty3 ty5)<|qM rfl<|Od rfl rfl (LO.conv rfl rfl ty3 ty5)<|qM rfl<|Od rfl rfl (LO.conv rfl rfl ty3 ty5)<|Od rfl rfl (LO.buildSlice rfl ty24 ty5 (by decide) (by decide) (.cons rfl rfl rfl rfl (Sl rfl) (.cons rfl rfl rfl rfl (Sl rfl) (.cons rfl rfl rfl rfl (Sl rfl) (.cons rfl rfl rfl rfl (Sl rfl) (.cons rfl rfl rfl rfl (Sl rfl) (.cons rfl rfl rfl rfl (Sl rfl) (.cons rfl rfl rfl rfl (Sl rfl) (.cons rfl rfl rfl rfl (Sl rfl) .nil)))))))))<|Od rfl rfl (Lap rfl rfl (Sso rfl rfl (Tl rfl)) rfl (bytes_tk rfl) ty24 ty24 ty5 (by decide) (by omega) (by omega) (by decide))<|qA rfl<|Nl ?_
 have e3:bytesC X++[AV.base (.int .u8 (IntKind.u8.wrap ((l.length:Int).fdiv (2 ^ (min (24:Int).toNat IntKind.i64.bits))))),AV.base (.int .u8 (IntKind.u8.wrap ((l.length:Int).fdiv (2 ^ (min (16:Int).toNat IntKind.i64.bits))))),AV.base (.int .u8 (IntKind.u8.wrap ((l.length:Int).fdiv (2 ^ (min (8:Int).toNat IntKind.i64.bits))))),AV.base (.int .u8 (IntKind.u8.wrap (l.length:Int))),AV.base (.int .u8 0),AV.base (.int .u8 0),AV.base (.int .u8 0),AV.base (.int .u8 (IntKind.u8.wrap p))]=bytesC (X++(len4 l.length++[0,0,0,IntKind.u8.wrap p])):=by
  rw [← h8,bytesC_app];rfl
 rw [e3]
 have hl3:(X++(len4 l.length++[0,0,0,IntKind.u8.wrap p])).length=X.length + 8:=by rw [List.length_append];rfl
 rw [← hl3]
 obtain ⟨Y,hY⟩:∃ Y,X++(len4 l.length++[0,0,0,IntKind.u8.wrap p])=Y:=⟨_,rfl⟩
 rw [hY] at hl3 ⊢
 have hfin:Y++l=chkB s d p l:=by rw [chkB_eq,← hY,← hX]
 refine Wq<|qW 45 50 rfl<|qM rfl<|qM rfl<|Od rfl rfl (Lap rfl rfl (Ssi rfl rfl (by simp [bytesC])) rfl (bytes_tk rfl) ty24 ty24 ty5 (by decide) (by omega) (by omega) (by decide)) ?_
 rw [← bytesC_app,← List.length_append,hfin]
 refine Od rfl rfl (C0 (fr:=[47]) rfl rfl (hsm) fok76 (.cons rfl (.one (.osl (by decide) rfl (bytes_tk rfl) (bytesC_pure _))) .nil) rfl)<|qA rfl<|Nl<|Wz ⟨.inl rfl,_,mt,Rc (Rt rfl) (Rv),aM,?_⟩
 exact ⟨rfl,rfl⟩
theorem zerosB (n:Nat):zerosL n [.base (.int .u8 0)]=bytesC (List.replicate n 0):=by
 unfold zerosL bytesC
 induction n with
 | zero=>rfl
 | succ n ih=>simp [List.replicate_succ] at ih ⊢
def flB (n:Nb):Int:=IntKind.u8.wrap (IntKind.i64.wrap (n.fl * 2 ^ (min (5:Int).toNat IntKind.i64.bits)))
def fixL (n:Nb):List Int:=if n.k=133 then List.replicate 4 0 else if n.k=134 then List.replicate 12 0 else if n.k=137 then List.replicate 4 0++addrL n.tg++addrL n.tg else [flB n,0,0,0]++addrL n.tg
theorem fixed_any (n:Nb) (hl:n.ln.length=6) (hv:validA n.tg.v6 n.tg.hi n.tg.lo=true) (h1:U64 n.tg.hi) (h2:U64 n.tg.lo):AFn Tryz.prog 153 0 [.agg (nbC n)] mt (.osl 0 0 (fixL n).length 1) (up mt 0 (some (bytesC (fixL n)))):=by
 refine AFn.eq Tryz.func153 rfl rfl (Nat.le_of_ble_eq_true rfl) ?_
 have hb:=bytes_any n.tg hv h1 h2
 have p1:=addrL_pos n.tg
 have hto:Tk (nbC n) (0 + 2) 3 (adC n.tg):=nb_tkA n
 refine Wq<|qW 0 2 rfl<|qC rfl<|qA rfl<|Nl<|Wq<|qW 6 10 rfl<|qF rfl ty87 rfl<|qG rfl ty54 rfl (Tl rfl)<|Od rfl rfl (LO.callO (fr:=[]) rfl rfl (hb) fok180 (.cons rfl (.pure rfl) .nil) (bytesC_pure _) (by decide))<|qA rfl<|Nl<|Wq<|Wq<|qW 14 16 rfl<|qF rfl ty87 rfl<|qL rfl ty3 rfl<|Nl<|Wb ?_
 by_cases k1:n.k=133
 ·have g1:(n.k == 133)=true:=by simpa using k1
  have hf:fixL n=List.replicate 4 0:=if_pos k1
  rw [hf]
  refine Wq<|qW 20 22 rfl<|qE rfl<|qA rfl<|Nl<|Wt rfl ‹_›<|Wq<|qW 26 28 rfl<|Od rfl rfl (LO.makeSlice rfl rfl rfl rfl rfl ty24 ty5 (by decide) (by omega) (by decide) (by decide))<|qA rfl<|Nl ?_
  rw [zerosB]
  refine W.rename [(0,26)] 1 (T':=up mt 2 (some (.osl 0 0 (4) 1))) (H':=up mt 0 (some (bytesC (List.replicate 4 0)))) (by decide) ?_ ?_ ?_
  ·exact aU (lI rfl) aM
  ·exact aU (kR rfl) aM
  refine Wz ⟨.inl rfl,_,up mt 0 (some (bytesC (List.replicate 4 0))),Rc (Rt rfl) Rv,aU rfl aM,?_⟩
  exact ⟨rfl,rfl⟩
 ·have g1:(n.k == 133)=false:=by simpa using k1
  by_cases k2:n.k=134
  ·have g2:(n.k == 134)=true:=by simpa using k2
   have hf:fixL n=List.replicate 12 0:=by unfold fixL;rw [if_neg k1,if_pos k2]
   rw [hf]
   refine Wq<|qW 20 22 rfl<|qE rfl<|qA rfl<|Nl<|Wo rfl ‹_›<|Wq<|qW 32 34 rfl<|qE rfl<|qA rfl<|Nl<|Wt rfl ‹_›<|Wq<|qW 38 40 rfl<|Od rfl rfl (LO.makeSlice rfl rfl rfl rfl rfl ty24 ty5 (by decide) (by omega) (by decide) (by decide))<|qA rfl<|Nl ?_
   rw [zerosB]
   refine W.rename [(0,38)] 1 (T':=up mt 2 (some (.osl 0 0 (12) 1))) (H':=up mt 0 (some (bytesC (List.replicate 12 0)))) (by decide) ?_ ?_ ?_
   ·exact aU (lI rfl) aM
   ·exact aU (kR rfl) aM
   refine Wz ⟨.inl rfl,_,up mt 0 (some (bytesC (List.replicate 12 0))),Rc (Rt rfl) Rv,aU rfl aM,?_⟩
   exact ⟨rfl,rfl⟩
  ·have g2:(n.k == 134)=false:=by simpa using k2
   by_cases k3:n.k=137
   ·have g3:(n.k == 137)=true:=by simpa using k3
    have hf:fixL n=List.replicate 4 0++addrL n.tg++addrL n.tg:=by unfold fixL;rw [if_neg k1,if_neg k2,if_pos k3]
    rw [hf]
    refine Wq<|qW 20 22 rfl<|qE rfl<|qA rfl<|Nl<|Wo rfl ‹_›<|Wq<|qW 32 34 rfl<|qE rfl<|qA rfl<|Nl<|Wo rfl ‹_›<|Wq<|qW 44 46 rfl<|qE rfl<|qA rfl<|Nl<|Wt rfl ‹_›<|Wq<|qW 50 56 rfl<|Od rfl rfl (LO.makeSlice rfl rfl rfl rfl rfl ty24 ty5 (by decide) (by omega) (by decide) (by decide)) ?_
    rw [zerosB]
    refine qM rfl<|Od rfl rfl (Lap rfl rfl (Sso rfl rfl (bytes_tk rfl)) rfl (bytes_tk (l:=List.replicate 4 0) rfl) ty24 ty24 ty5 (by decide) (by (simp;omega)) (by (simp;omega)) (by decide)) ?_
    rw [← bytesC_app]
    refine qM rfl<|Od rfl rfl (Lap rfl rfl (Sso rfl rfl (bytes_tk rfl)) rfl (bytes_tk (l:=List.replicate 4 0++addrL n.tg) (by simp;omega)) ty24 ty24 ty5 (by decide) (by (simp;omega)) (by (simp;omega)) (by decide))<|qA rfl<|Nl ?_
    rw [← bytesC_app,show 4 + (addrL n.tg).length + (addrL n.tg).length=(List.replicate 4 (0:Int)++addrL n.tg++addrL n.tg).length from by simp;omega]
    refine W.rename [(0,54)] 1 (T':=up mt 2 (some (.osl 0 0 ((List.replicate 4 (0:Int)++addrL n.tg++addrL n.tg).length) 1))) (H':=up mt 0 (some (bytesC (List.replicate 4 0++addrL n.tg++addrL n.tg)))) (by decide) ?_ ?_ ?_
    ·exact aU (lI rfl) aM
    ·exact aU (kP rfl (bytesC_pure _)) aM
    refine Wz ⟨.inl rfl,_,up mt 0 (some (bytesC (List.replicate 4 0++addrL n.tg++addrL n.tg))),Rc (Rt rfl) Rv,aU rfl aM,?_⟩
    exact ⟨rfl,rfl⟩
   ·have g3:(n.k == 137)=false:=by simpa using k3
    have hf:fixL n=[flB n,0,0,0]++addrL n.tg:=by unfold fixL;rw [if_neg k1,if_neg k2,if_neg k3]
    rw [hf]
    refine Wq<|qW 20 22 rfl<|qE rfl<|qA rfl<|Nl<|Wo rfl ‹_›<|Wq<|qW 32 34 rfl<|qE rfl<|qA rfl<|Nl<|Wo rfl ‹_›<|Wq<|qW 44 46 rfl<|qE rfl<|qA rfl<|Nl<|Wo rfl ‹_›<|Wu<|Wq<|qW 60 68 rfl<|qF rfl ty87 rfl<|qL rfl ty3 rfl<|Od rfl rfl (LO.shl rfl rfl rfl (by decide))<|Od rfl rfl (LO.conv rfl rfl ty3 ty5)<|Od rfl rfl (LO.buildSlice rfl ty24 ty5 (by decide) (by decide) (.cons rfl rfl rfl rfl (Sl rfl) (.cons rfl rfl rfl rfl (Sl rfl) (.cons rfl rfl rfl rfl (Sl rfl) (.cons rfl rfl rfl rfl (Sl rfl) .nil)))))<|qM rfl<|Od rfl rfl (Lap rfl rfl (Sso rfl rfl (bytes_tk rfl)) rfl (Tl rfl) ty24 ty24 ty5 (by decide) (by omega) (by omega) (by decide))<|qA rfl<|Nl ?_
    rw [show [AV.base (.int .u8 (IntKind.u8.wrap (IntKind.i64.wrap (n.fl * 2 ^ (min (5:Int).toNat IntKind.i64.bits))))),AV.base (.int .u8 0),AV.base (.int .u8 0),AV.base (.int .u8 0)]++bytesC (addrL n.tg)=bytesC ([flB n,0,0,0]++addrL n.tg) from by rw [bytesC_app];rfl,show 4 + (addrL n.tg).length=([flB n,0,0,0]++addrL n.tg).length from by simp;omega]
    refine W.rename [(0,66)] 1 (T':=up mt 2 (some (.osl 0 0 (([flB n,0,0,0]++addrL n.tg).length) 1))) (H':=up mt 0 (some (bytesC ([flB n,0,0,0]++addrL n.tg)))) (by decide) ?_ ?_ ?_
    ·exact aU (lI rfl) aM
    ·exact aU (kP rfl (bytesC_pure _)) aM
    refine Wz ⟨.inl rfl,_,up mt 0 (some (bytesC ([flB n,0,0,0]++addrL n.tg))),Rc (Rt rfl) Rv,aU rfl aM,?_⟩
    exact ⟨rfl,rfl⟩
def encL (n:Nb):List Int:=[IntKind.u8.wrap n.k,0,0,0]++fixL n++(if n.has then [optN n.k,1]++n.ln else [])
def sumL2 (c:Int) (l:List Int):List Int:=(l.set 2 (IntKind.u8.wrap (c.fdiv (2 ^ (min (8:Int).toNat IntKind.u16.bits))))).set 3 (IntKind.u8.wrap c)
def encN (n:Nb) (s d:Ad):Pk:=⟨s,d,58,255,sumL2 (chkF s d 58 (encL n)) (encL n)⟩
def okN (n:Nb) (s d:Ad):Bool:=validN n && (s.v6 && d.v6)
def zPk:Pk:=⟨zAd,zAd,0,0,[]⟩
theorem fixL_isB (n:Nb):IsB (fixL n):=by
 unfold fixL
 split
 ·intro x hx;rw [List.eq_of_mem_replicate hx];decide
 ·split
  ·intro x hx;rw [List.eq_of_mem_replicate hx];decide
  ·split
   ·exact IsB.append (IsB.append (fun x hx=>by rw [List.eq_of_mem_replicate hx];decide) (addrL_isB _)) (addrL_isB _)
   ·refine IsB.append (fun x hx=>?_) (addrL_isB _)
    have:=u8_bd (IntKind.i64.wrap (n.fl * 2 ^ (min (5:Int).toNat IntKind.i64.bits)))
    simp only [List.mem_cons,List.not_mem_nil,or_false] at hx
    rcases hx with rfl|rfl|rfl|rfl
    ·exact this
    ·decide
    ·decide
    ·decide
theorem fixL_len (n:Nb):(fixL n).length≤36:=by
 have:=addrL_pos n.tg
 unfold fixL
 split
 ·simp
 ·split
  ·simp
  ·split<;>simp<;>omega
theorem optN_bd (k:Int):0≤optN k∧optN k≤255:=by unfold optN;split<;>decide
theorem encL_isB {n:Nb} (hB:IsB n.ln):IsB (encL n):=by
 refine IsB.append (IsB.append (fun x hx=>?_) (fixL_isB n)) ?_
 ·have:=u8_bd n.k
  simp only [List.mem_cons,List.not_mem_nil,or_false] at hx
  rcases hx with rfl|rfl|rfl|rfl
  ·exact this
  ·decide
  ·decide
  ·decide
 ·split
  ·refine IsB.append (fun x hx=>?_) hB
   have:=optN_bd n.k
   simp only [List.mem_cons,List.not_mem_nil,or_false] at hx
   rcases hx with rfl|rfl
   ·exact this
   ·decide
  ·intro x hx;cases hx
theorem encL_len {n:Nb} (hl:n.ln.length=6):4≤(encL n).length∧(encL n).length≤48:=by
 have:=fixL_len n
 unfold encL
 split<;>simp [hl]<;>omega
theorem validN_tg {n:Nb} (h:validN n=true):validA n.tg.v6 n.tg.hi n.tg.lo=true:=by
 unfold validN at h
 simp only [Bool.and_eq_true] at h
 have h7:=h.2.2.2.2.2.2
 split at h7
 ·simp only [Bool.and_eq_true] at h7
  unfold validA;rw [h7.1];rfl
 ·rw [eqA_iff.1 h7];rfl
theorem nbC_pure (n:Nb):(nbC n).all AV.pure1=true:=by
 unfold nbC adC
 rw [List.all_append,bytesC_pure];rfl
theorem tk_len {cs:List AV} {n:Nat} (h:cs.length=n * 1):Tk cs 0 (n * 1) cs:=by rw [← h];exact Tk.all cs
theorem sumL2_len (c:Int) (l:List Int):(sumL2 c l).length=l.length:=by simp [sumL2]
def encV (n:Nb) (s d:Ad):AV:=.tup [.agg (pkC (if okN n s d then encN n s d else zPk)),.base (.int .i64 (if okN n s d then 0 else 1))]
end Go.Proofs.YtlcndmciognneaaGreatDoor
