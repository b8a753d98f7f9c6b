/-
  The document's bindings of the ports.
-/
import Derived.Test.YtcidmiacfjdepaaGreatDoorJi
import Derived.Test.YtcidmiacfjdepaaGreatDoorMab
namespace Go.Proofs.YtcidmiacfjdepaaGreatDoor
open Go.RowKit
theorem cmp_any (a b:Ad):∃ v H',AFn Tryz.prog 42 0 [.agg (adC a),.agg (adC b)] mt v H'∧∃ c:Int,v=.base (.int .i64 c)∧H'=mt:=by
  refine AFn.ex Tryz.func42 rfl rfl (Nat.le_of_ble_eq_true rfl) (Wq (qW 0 3 rfl rfl rfl (qC rfl rfl rfl (qC rfl rfl rfl (qA rfl rfl (Nl (Wq (Wb (Wq (qW 7 11 rfl rfl rfl (qG rfl rfl rfl ty42 rfl (Tl rfl) (qG rfl rfl rfl ty42 rfl (Tl rfl) (Od rfl rfl (LO.eql_ad a b rfl rfl rfl) (qA rfl rfl (Nl (W.cond rfl (fun hb1=>?_) (fun hb1=>?_)))))))))))))))))
  ·
    try (have hb1p:=of_decide_eq_true hb1)
    try (have hb1q:=eq_of_beq hb1)
    refine Wq (qW 15 16 rfl rfl rfl (qA rfl rfl (Nl (Wz ⟨.inl rfl,_,mt,Rc (Rt rfl) (Rn),all_mt,?_⟩))))
    exact ⟨_,rfl,rfl⟩
  ·
    try (have hb1p:=of_decide_eq_false hb1)
    try (have hb1q:=ne_of_beq_false hb1)
    refine Wq (qW 20 26 rfl rfl rfl (qF rfl rfl ty42 rfl rfl (qL rfl rfl rfl rfl ty4 rfl (qF rfl rfl ty42 rfl rfl (qL rfl rfl rfl rfl ty4 rfl (Od rfl rfl (LO.neq_bool rfl rfl rfl ty4) (qA rfl rfl (Nl (W.cond rfl (fun hb2=>?_) (fun hb2=>?_))))))))))
    ·
      try (have hb2p:=of_decide_eq_true hb2)
      try (have hb2q:=eq_of_beq hb2)
      refine Wq (Wq (qW 30 32 rfl rfl rfl (qF rfl rfl ty42 rfl rfl (qL rfl rfl rfl rfl ty4 rfl (Nl (W.cond rfl (fun hb3=>?_) (fun hb3=>?_)))))))
      ·
        try (have hb3p:=of_decide_eq_true hb3)
        try (have hb3q:=eq_of_beq hb3)
        refine Wq (qW 36 37 rfl rfl rfl (qA rfl rfl (Nl (Wz ⟨.inl rfl,_,mt,Rc (Rt rfl) (Rn),all_mt,?_⟩))))
        exact ⟨_,rfl,rfl⟩
      ·
        try (have hb3p:=of_decide_eq_false hb3)
        try (have hb3q:=ne_of_beq_false hb3)
        refine Wk (Wq (qW 41 42 rfl rfl rfl (qA rfl rfl (Nl (Wz ⟨.inl rfl,_,mt,Rc (Rt rfl) (Rn),all_mt,?_⟩)))))
        exact ⟨_,rfl,rfl⟩
    ·
      try (have hb2p:=of_decide_eq_false hb2)
      try (have hb2q:=ne_of_beq_false hb2)
      refine Wq (qW 46 66 rfl rfl rfl (qF rfl rfl ty42 rfl rfl (qL rfl rfl rfl rfl ty40 rfl (qF rfl rfl ty42 rfl rfl (qL rfl rfl rfl rfl ty40 rfl (qK rfl rfl rfl (qM rfl rfl (RW.split (t:=23) rfl (fun hb4=>?_) (fun hb4=>?_)))))))))
      ·
        try (have hb4p:=of_decide_eq_true hb4)
        try (have hb4q:=eq_of_beq hb4)
        refine Sd rfl rfl rfl hb4 rfl (Sd rfl rfl rfl hb4 rfl (Sd rfl rfl rfl hb4 rfl (Sd rfl rfl rfl hb4 rfl (Sd rfl rfl rfl hb4 rfl (Sd rfl rfl rfl hb4 rfl (Ud rfl rfl rfl rfl (Ud rfl rfl rfl rfl (Ud rfl rfl rfl rfl (Ud rfl rfl rfl rfl (Ud rfl rfl rfl rfl (Sd rfl rfl rfl hb4 rfl (qT rfl rfl hb4 rfl (qA rfl rfl (Nl (Wt rfl rfl (Wq (qW 70 71 rfl rfl rfl (qA rfl rfl (Nl (Wz ⟨.inl rfl,_,mt,Rc (Rt rfl) (Rn),all_mt,?_⟩))))))))))))))))))))
        exact ⟨_,rfl,rfl⟩
      ·
        try (have hb4p:=of_decide_eq_false hb4)
        try (have hb4q:=ne_of_beq_false hb4)
        refine Gd rfl rfl rfl hb4 rfl (Fa rfl rfl ty42 rfl (by decide)) (Gd rfl rfl rfl hb4 rfl (Ld rfl rfl rfl rfl ty40 rfl) (Gd rfl rfl rfl hb4 rfl (Fa rfl rfl ty42 rfl (by decide)) (Gd rfl rfl rfl hb4 rfl (Ld rfl rfl rfl rfl ty40 rfl) (Gd rfl rfl rfl hb4 rfl (Eq0 rfl rfl rfl) (Gd rfl rfl rfl hb4 rfl (Mv rfl rfl) (RW.split (t:=29) rfl (fun hb5=>?_) (fun hb5=>?_)))))))
        ·
          try (have hb5p:=of_decide_eq_true hb5)
          try (have hb5q:=eq_of_beq hb5)
          refine Gd rfl rfl rfl hb5 rfl (Fa rfl rfl ty42 rfl (by decide)) (Gd rfl rfl rfl hb5 rfl (Ld rfl rfl rfl rfl ty40 rfl) (Gd rfl rfl rfl hb5 rfl (Fa rfl rfl ty42 rfl (by decide)) (Gd rfl rfl rfl hb5 rfl (Ld rfl rfl rfl rfl ty40 rfl) (Gd rfl rfl rfl hb5 rfl (Ls rfl rfl rfl) (Gd rfl rfl rfl hb4 rfl (Pt rfl rfl hb5 rfl) (qP rfl rfl hb4 rfl (qA rfl rfl (Nl (W.cond rfl (fun hb6=>?_) (fun hb6=>?_))))))))))
          ·
            try (have hb6p:=of_decide_eq_true hb6)
            try (have hb6q:=eq_of_beq hb6)
            refine Wq (qW 70 71 rfl rfl rfl (qA rfl rfl (Nl (Wz ⟨.inl rfl,_,mt,Rc (Rt rfl) (Rn),all_mt,?_⟩))))
            exact ⟨_,rfl,rfl⟩
          ·
            try (have hb6p:=of_decide_eq_false hb6)
            try (have hb6q:=ne_of_beq_false hb6)
            refine Wk (Wq (qW 75 76 rfl rfl rfl (qA rfl rfl (Nl (Wz ⟨.inl rfl,_,mt,Rc (Rt rfl) (Rn),all_mt,?_⟩)))))
            exact ⟨_,rfl,rfl⟩
        ·
          try (have hb5p:=of_decide_eq_false hb5)
          try (have hb5q:=ne_of_beq_false hb5)
          refine Sd rfl rfl rfl hb5 rfl (Sd rfl rfl rfl hb5 rfl (Sd rfl rfl rfl hb5 rfl (Sd rfl rfl rfl hb5 rfl (Sd rfl rfl rfl hb5 rfl (Gd rfl rfl rfl hb4 rfl (Pf0 rfl rfl hb5 rfl) (qP rfl rfl hb4 rfl (qA rfl rfl (Nl (Wf rfl rfl (Wk (Wq (qW 75 76 rfl rfl rfl (qA rfl rfl (Nl (Wz ⟨.inl rfl,_,mt,Rc (Rt rfl) (Rn),all_mt,?_⟩)))))))))))))))
          exact ⟨_,rfl,rfl⟩
structure Bd where
  ad:Ad
  mac:List Int
  port:Int
def bdC (b:Bd):List AV:=adC b.ad++bytesC b.mac++[.base (.int .i64 b.port)]
def bdsC (l:List Bd):List AV:=l.flatMap bdC
theorem bdC_len {b:Bd} (h:b.mac.length=6):(bdC b).length=10:=by simp [bdC,adC,bytesC_len,h]
theorem bdC_pure (b:Bd):(bdC b).all AV.pure1=true:=by
  simp only [bdC,List.all_append,bytesC_pure,adC,Bool.and_true]
  rfl
theorem bdsC_pure (l:List Bd):(bdsC l).all AV.pure1=true:=flatPure bdC_pure l
def MacOk (l:List Bd):Prop:=∀ b,b∈l→b.mac.length=6
theorem bdsC_len {l:List Bd} (h:MacOk l):(bdsC l).length=l.length * 10:=by
  induction l with
  | nil=>rfl
  | cons x l ih=>rw [show bdsC (x::l)=bdC x++bdsC l from rfl,List.length_append,ih (fun b hb=>h b (by simp [hb])),bdC_len (h x (by simp)),List.length_cons];omega
theorem tk_split {a b:List AV} {k m n:Nat} (hk:a.length=k) (hm:b.length=m) (hn:k + m=n):Tk (a++b) 0 k a∧Tk (a++b) k m b:=by
  subst hk hm
  refine ⟨⟨rfl,fun j d hj=>?_⟩,⟨rfl,fun j d hj=>?_⟩⟩
  · have h:=(List.getElem?_eq_some_iff.1 hj).1
    rw [Nat.zero_add,List.getElem?_append_left h];exact hj
  · rw [List.getElem?_append_right (by omega),show a.length + j - a.length=j from by omega];exact hj
theorem bds_split {l:List Bd} (h:MacOk l) {i:Nat} (hi:i≤l.length):Tk (bdsC l) 0 (i * 10) (bdsC (l.take i))∧Tk (bdsC l) (i * 10) ((l.length - i) * 10) (bdsC (l.drop i)):=by
  have e:bdsC l=bdsC (l.take i)++bdsC (l.drop i):=by unfold bdsC;rw [← List.flatMap_append,List.take_append_drop]
  have h1:(bdsC (l.take i)).length=i * 10:=by rw [bdsC_len (fun b hb=>h b (List.mem_of_mem_take hb)),List.length_take];congr 1;omega
  have h2:(bdsC (l.drop i)).length=(l.length - i) * 10:=by rw [bdsC_len (fun b hb=>h b (List.mem_of_mem_drop hb)),List.length_drop]
  rw [e]
  exact tk_split h1 h2 rfl
theorem bds_all {l:List Bd} (h:MacOk l):Tk (bdsC l) 0 (l.length * 10) (bdsC l):=by
  have:=Tk.all (bdsC l)
  rwa [bdsC_len h] at this
theorem bds_tk {l:List Bd} (h:MacOk l) {k:Nat} (hk:k < l.length):Tk (bdsC l) (k * 10) 10 (bdC l[k]):=by
  have e:bdsC l=bdsC (l.take k)++(bdC l[k]++bdsC (l.drop (k + 1))):=by
    have e1:bdsC (l.take k++l[k]::l.drop (k + 1))=bdsC l:=by rw [← List.drop_eq_getElem_cons hk,List.take_append_drop]
    rw [← e1]
    unfold bdsC
    rw [List.flatMap_append,List.flatMap_cons]
  have h1:(bdsC (l.take k)).length=k * 10:=by rw [bdsC_len (fun b hb=>h b (List.mem_of_mem_take hb)),List.length_take];congr 1;omega
  have h3:(bdC l[k]).length=10:=bdC_len (h _ (List.getElem_mem hk))
  rw [e]
  refine ⟨h3,fun j d hj=>?_⟩
  have hjl:=(List.getElem?_eq_some_iff.1 hj).1
  rw [List.getElem?_append_right (by omega),h1,show k * 10 + j - k * 10=j from by omega,List.getElem?_append_left hjl]
  exact hj
def macOf (p:Prt):List Int:=p.macs.headD []
def bdsAt (p:Prt) (l:List Ad):List Bd:=l.map fun a=>⟨a,macOf p,p.id⟩
def bdsOf (ps:List Prt):List Bd:=ps.flatMap fun p=>bdsAt p (adsP p)
theorem ad1_len (a:Ad):(ad1 a).length≤1:=by unfold ad1;split<;>simp
theorem LO.eql_adz {o:Oper} {E:Operand→Option AV} {H:Hp} {f:Nat} {ty:TypeId} {x y:Operand} (a:Ad) (ho:o.op=.binOp .eql 42 x y ty) (hx:E x=some (.agg (adC a))) (hy:E y=some (.agg (adC ⟨false,0,0⟩))):LO Tryz.prog o E H f [] [] (.base (.bool (zeroA a))) H:=LO.eql_ad a ⟨false,0,0⟩ ho hx hy
set_option maxHeartbeats 2000000 in
theorem bindings_any (d:Db) (hd:DbOk d) (hp:portsOf d=allP d) (hl:(allP d).length≤1000) (hpo:∀ p,p∈allP d→PrtOk p) :
    ∃ v H',AFn Tryz.prog 16 0 [.agg (dbC d)] mt v H'∧∃ bs:List Bd,(List.Perm bs (bdsOf (allP d))∧MacOk bs)∧v=.isl (bdsC bs) bs.length∧H'=mt:=by
  refine AFn.ex Tryz.func16 rfl rfl (Nat.le_of_ble_eq_true rfl) ?_
  have hpt:=ports_any d hd (by rw [hp];exact hl)
  rw [hp] at hpt
  generalize allP d=ps at *
  clear hp
  refine Wq (qW 0 2 rfl rfl rfl (qC rfl rfl rfl (qA rfl rfl (Nl (Wq (qW 6 7 rfl rfl rfl (qA rfl rfl (Nl (W.name 7 (7 + 1) (t:=3) (sz:=10) rfl (by decide) (by decide) (Wq (Wq (qW 11 15 rfl rfl rfl (qG rfl rfl rfl ty53 rfl (Tl rfl) (Od rfl rfl (C0 (fr:=[]) rfl rfl (hpt) fok40 (.cons rfl (.pure rfl) .nil) rfl) (qH rfl rfl rfl ty93 (qM rfl rfl (Nl (Wb (W.rename [(0,7)] 1 (T':=up (up (up (up mt 3 (some (.osl 0 0 (([]:List Bd)).length 10))) 10 (some (.isl (prtsC ps) ps.length))) 11 (some (.base (.int .i64 (ps.length:Int))))) 12 (some (.base (.int .i64 (0:Int))))) (H':=up mt 0 (some (bdsC (([]:List Bd))))) (by decide) ?_ ?_ ?_)))))))))))))))))))
  · (repeat' (first|exact all_mt|refine all_up ?_ ?_))<;>first|exact .inl ⟨rfl,rfl⟩|exact .inr ⟨rfl,fun _ h=>by cases h⟩|exact .inl ⟨rfl,by first|rfl|assumption|exact (bdsC_pure _)⟩
  · (repeat' (first|exact all_mt|refine all_up ?_ ?_))<;>first|exact ⟨rfl,_,rfl,.inr ⟨rfl,rfl⟩⟩|exact ⟨rfl,_,rfl,.inl rfl⟩|exact ⟨rfl,_,rfl,.inr ⟨rfl,by first|rfl|assumption|exact (bdsC_pure _)⟩⟩
  refine W.loop_ind (α:=Nat × List Bd) (fun x=>ps.length - x.1) 1 (fun x=>up (up (up (up mt 3 (some (.osl 0 0 x.2.length 10))) 10 (some (.isl (prtsC ps) ps.length))) 11 (some (.base (.int .i64 (ps.length:Int))))) 12 (some (.base (.int .i64 (x.1:Int))))) (fun x=>up mt 0 (some (bdsC x.2))) (fun x=>x.1≤ps.length∧MacOk x.2∧List.Perm x.2 (bdsOf (ps.take x.1))∧x.2.length≤2 * x.1) (0,(([]:List Bd))) (show 0≤ps.length∧MacOk (([]:List Bd))∧List.Perm (([]:List Bd)) (bdsOf (ps.take 0))∧(([]:List Bd)).length≤2 * 0 from ⟨Nat.zero_le _,fun b hb=>absurd hb List.not_mem_nil,.refl _,Nat.le_refl _⟩) ?_
  rintro ⟨i,bs⟩ hIA ihA
  try (dsimp only at hIA)
  try dsimp only
  obtain ⟨hi,hmo,hpm,hbl⟩:=hIA
  by_cases hc:i < ps.length
  · have g1:decide ((i:Int) < (ps.length:Int))=true:=decide_eq_true (by omega)
    have hok:=hpo _ (List.getElem_mem hc)
    have hbo:bdsOf (ps.take (i + 1))=bdsOf (ps.take i)++bdsAt ps[i] ([ps[i].v4,ps[i].v6].flatMap ad1):=by
      rw [List.take_succ_eq_append_getElem hc]
      unfold bdsOf
      rw [List.flatMap_append]
      simp [adsP,ad1]
    refine Wq (qW 19 20 rfl rfl rfl (qK rfl rfl rfl (Nl (Wq (Wt rfl ‹_› (Wk (Wq (Wb (Wq (qW 24 28 rfl rfl rfl (qJ rfl rfl rfl rfl rfl ty93 ty102 (by first|omega|decide|assumption|(simp;done)|(simp;omega)) (Od rfl rfl (Lg rfl rfl ty102 rfl (prts_tk hc)) (qB rfl ty102 (qS rfl rfl rfl rfl rfl ty102 rfl rfl (Sl rfl) (Nl ?_)))))))))))))))
    generalize ps[i]=p at *
    have hm6:=fun m hm=>(hok.macs m hm).1
    have hnm:=hok.nm
    obtain ⟨id,sw,sp,macs,v4,v6⟩:=p
    dsimp only at hm6 hnm hbo
    refine Wq (qW 32 39 rfl rfl rfl (qF rfl rfl ty102 rfl rfl (qG rfl rfl rfl ty42 rfl (Tl rfl) (qF rfl rfl ty102 rfl rfl (qG rfl rfl rfl ty42 rfl (Tl rfl) (Od rfl rfl (LO.buildSlice rfl ty33 ty42 (by decide) (by decide) (.cons rfl rfl rfl rfl (Sl rfl) (.cons rfl rfl rfl rfl (Sl rfl) .nil))) (Od rfl rfl (LO.len rfl rfl ty33) (qM rfl rfl (Nl (Wy (t:=20) rfl rfl (Tl rfl) rfl ?_))))))))))
    rw [show ([.base (.bool v4.v6),.base (.int .u64 v4.hi),.base (.int .u64 v4.lo),.base (.bool v6.v6),.base (.int .u64 v6.hi),.base (.int .u64 v6.lo)]:List AV)=adsC [v4,v6] from rfl]
    have hmo0:=hmo
    have hpm0:List.Perm bs (bdsOf (ps.take i)++bdsAt ⟨id,sw,sp,macs,v4,v6⟩ ((([v4,v6]:List Ad).take 0).flatMap ad1)):=by simpa [bdsAt] using hpm
    clear hpm hmo
    obtain ⟨W2,hW2⟩:∃ W2:List Ad,W2=[v4,v6]:=⟨_,rfl⟩
    have hw2:W2.length=2:=by rw [hW2];rfl
    rw [← hW2] at hpm0 hbo ⊢
    have hpw:(([.base (.int .i64 id),.base (.int .i64 sw),.base (.int .i64 sp),.isl (macsC macs) macs.length]:List AV)++adsC W2).all AV.pure1=true:=by
      simp only [List.all_append,adsC_pure,Bool.and_true]
      rfl
    refine Wb (W.rename [(0,0),(1,26)] 2 (T':=up (up (up (up (up (up (up (up mt 3 (some (.osl 0 0 bs.length 10))) 5 (some (.own 1 0))) 10 (some (.isl (prtsC ps) ps.length))) 11 (some (.base (.int .i64 (ps.length:Int))))) 12 (some (.base (.int .i64 (i:Int))))) 20 (some (.isl (adsC W2) 2))) 21 (some (.base (.int .i64 (2:Int))))) 22 (some (.base (.int .i64 (0:Int))))) (H':=up (up mt 0 (some (bdsC bs))) 1 (some ([.base (.int .i64 id),.base (.int .i64 sw),.base (.int .i64 sp),.isl (macsC macs) macs.length]++adsC W2))) (by decide) ?_ ?_ ?_)
    · (repeat' (first|exact all_mt|refine all_up ?_ ?_))<;>first|exact .inl ⟨rfl,rfl⟩|exact .inr ⟨rfl,fun _ h=>by cases h⟩|exact .inl ⟨rfl,by first|rfl|assumption|exact (bdsC_pure _)|exact hpw⟩
    · (repeat' (first|exact all_mt|refine all_up ?_ ?_))<;>first|exact ⟨rfl,_,rfl,.inr ⟨rfl,rfl⟩⟩|exact ⟨rfl,_,rfl,.inl rfl⟩|exact ⟨rfl,_,rfl,.inr ⟨rfl,by first|rfl|assumption|exact (bdsC_pure _)|exact hpw⟩⟩
    refine W.loop_ind (α:=Nat × List Bd) (fun x=>2 - x.1) 2 (fun x=>up (up (up (up (up (up (up (up mt 3 (some (.osl 0 0 x.2.length 10))) 5 (some (.own 1 0))) 10 (some (.isl (prtsC ps) ps.length))) 11 (some (.base (.int .i64 (ps.length:Int))))) 12 (some (.base (.int .i64 (i:Int))))) 20 (some (.isl (adsC W2) 2))) 21 (some (.base (.int .i64 (2:Int))))) 22 (some (.base (.int .i64 (x.1:Int))))) (fun x=>up (up mt 0 (some (bdsC x.2))) 1 (some ([.base (.int .i64 id),.base (.int .i64 sw),.base (.int .i64 sp),.isl (macsC macs) macs.length]++adsC W2))) (fun x=>x.1≤2∧MacOk x.2∧List.Perm x.2 (bdsOf (ps.take i)++bdsAt ⟨id,sw,sp,macs,v4,v6⟩ ((W2.take x.1).flatMap ad1))∧x.2.length≤2 * i + x.1) (0,bs) (show 0≤2∧MacOk bs∧List.Perm bs (bdsOf (ps.take i)++bdsAt ⟨id,sw,sp,macs,v4,v6⟩ ((W2.take 0).flatMap ad1))∧bs.length≤2 * i + 0 from ⟨Nat.zero_le _,hmo0,hpm0,by omega⟩) ?_
    rintro ⟨k,ds⟩ hIB ihB
    try (dsimp only at hIB)
    try dsimp only
    obtain ⟨hk,hmd,hpd,hdl⟩:=hIB
    by_cases hc2:k < 2
    · have g2:decide ((k:Int) < 2)=true:=decide_eq_true (by omega)
      have hkw:k < W2.length:=by omega
      have hwk:(W2.take (k + 1)).flatMap ad1=(W2.take k).flatMap ad1++ad1 (W2[k]):=by
        rw [List.take_succ_eq_append_getElem hkw,List.flatMap_append];simp
      refine Wq (qW 43 44 rfl rfl rfl (qK rfl rfl rfl (Nl (Wq (Wt rfl ‹_› (Wk (Wq (Wb (Wq (qW 48 52 rfl rfl rfl (qJ rfl rfl rfl rfl rfl ty33 ty42 (by first|omega|decide|assumption|(simp;done)|(simp;omega)) (Od rfl rfl (Lg rfl rfl ty42 rfl (ads_tk (l:=W2) (k:=k) hkw)) (qB rfl ty42 (qS rfl rfl rfl rfl rfl ty42 rfl rfl (Sl rfl) (Nl ?_)))))))))))))))
      generalize W2[k]=a at *
      cases hz:zeroA a
      · have h0:(((macs.length:Nat):Int) == 0)=false:=by rw [beq_eq_false_iff_ne];omega
        have ha1:ad1 a=[a]:=by unfold ad1;rw [hz];rfl
        refine Wq (Wq (qW 56 65 rfl rfl rfl (qG rfl rfl rfl ty42 rfl (Tl rfl) (Od rfl rfl (Bs rfl ty42 .nil) (Od rfl rfl (LO.eql_adz a rfl rfl rfl) (qM rfl rfl (Gd rfl rfl rfl ‹_› rfl (Fa rfl rfl ty102 rfl (by decide)) (Gd rfl rfl rfl ‹_› rfl (Ld rfl rfl rfl rfl ty32 rfl) (Gd rfl rfl rfl ‹_› rfl (Ln rfl rfl rfl ty32) (Gd rfl rfl rfl ‹_› rfl (Eq0 rfl rfl rfl) (qP rfl rfl ‹_› rfl (Nl (Wf rfl ‹_› (Wk (Wq (qW 69 70 rfl rfl rfl (qA rfl rfl (Nl (Wq (Wb (W.rename [(0,0),(1,1),(2,50)] 3 (T':=up (up (up (up (up (up (up (up (up (up mt 3 (some (.osl 0 0 ds.length 10))) 5 (some (.own 1 0))) 7 (some (.own 2 0))) 8 (some (.base (.int .i64 (0:Int))))) 10 (some (.isl (prtsC ps) ps.length))) 11 (some (.base (.int .i64 (ps.length:Int))))) 12 (some (.base (.int .i64 (i:Int))))) 20 (some (.isl (adsC W2) 2))) 21 (some (.base (.int .i64 (2:Int))))) 22 (some (.base (.int .i64 (k:Int))))) (H':=up (up (up mt 0 (some (bdsC ds))) 1 (some ([.base (.int .i64 id),.base (.int .i64 sw),.base (.int .i64 sp),.isl (macsC macs) macs.length]++adsC W2))) 2 (some (adC a))) (by decide) ?_ ?_ ?_)))))))))))))))))))))
        · (repeat' (first|exact all_mt|refine all_up ?_ ?_))<;>first|exact .inl ⟨rfl,rfl⟩|exact .inr ⟨rfl,fun _ h=>by cases h⟩|exact .inl ⟨rfl,by first|rfl|assumption|exact (bdsC_pure _)|exact hpw⟩
        · (repeat' (first|exact all_mt|refine all_up ?_ ?_))<;>first|exact ⟨rfl,_,rfl,.inr ⟨rfl,rfl⟩⟩|exact ⟨rfl,_,rfl,.inl rfl⟩|exact ⟨rfl,_,rfl,.inr ⟨rfl,by first|rfl|assumption|exact (bdsC_pure _)|exact hpw⟩⟩
        refine W.loop_ind (α:=Nat) (fun x=>ds.length - x) 3 (fun x=>up (up (up (up (up (up (up (up (up (up mt 3 (some (.osl 0 0 ds.length 10))) 5 (some (.own 1 0))) 7 (some (.own 2 0))) 8 (some (.base (.int .i64 (x:Int))))) 10 (some (.isl (prtsC ps) ps.length))) 11 (some (.base (.int .i64 (ps.length:Int))))) 12 (some (.base (.int .i64 (i:Int))))) 20 (some (.isl (adsC W2) 2))) 21 (some (.base (.int .i64 (2:Int))))) 22 (some (.base (.int .i64 (k:Int))))) (fun x=>up (up (up mt 0 (some (bdsC ds))) 1 (some ([.base (.int .i64 id),.base (.int .i64 sw),.base (.int .i64 sp),.isl (macsC macs) macs.length]++adsC W2))) 2 (some (adC a))) (fun x=>x≤ds.length) 0 (show 0≤ds.length from Nat.zero_le _) ?_
        rintro n hIC ihC
        try (dsimp only at hIC)
        try dsimp only
        have hlen10:(ds.length + 1) * 80≤140737488355328:=by omega
        by_cases hn:n < ds.length
        case' pos =>
          have g3:decide ((n:Int) < (ds.length:Int))=true:=decide_eq_true (by omega)
          obtain ⟨vc,Hc,hcm,c,rfl,rfl⟩:=cmp_any ds[n].ad a
          have htn:=(bds_tk hmd hn).2
          have htn0:Tk (bdsC ds) (0 + n * 10 + 0) 3 (adC ds[n].ad):=⟨rfl,fun j e hj=>by
            have hjl:j < 3:=(List.getElem?_eq_some_iff.1 hj).1
            rw [Nat.zero_add,Nat.add_zero]
            exact htn j e (by rw [show bdC ds[n]=adC ds[n].ad++(bytesC ds[n].mac++[.base (.int .i64 ds[n].port)]) from by simp [bdC],List.getElem?_append_left (by exact hjl)];exact hj)⟩
          cases hcc:decide (c < 0)
          case' true =>
            refine Wq (Wq (Wd 74 88 (by decide) rfl mixed rfl (qM rfl rfl (qM rfl rfl (Od rfl rfl (LO.len rfl rfl ty31) (qK rfl rfl rfl (qM rfl rfl (Gd rfl rfl rfl ‹_› rfl (Mv rfl rfl) (Gd rfl rfl rfl ‹_› rfl (Mv rfl rfl) (Gd rfl rfl rfl ‹_› rfl (Ia rfl rfl rfl rfl ty31 ty85 (by first|omega|decide|assumption|(simp;done)|(simp;omega))) (Gd rfl rfl rfl ‹_› rfl (Fa rfl rfl ty85 rfl (by decide)) (Gd rfl rfl rfl ‹_› rfl (La rfl rfl rfl ty42 rfl htn0) (Gd rfl rfl rfl ‹_› rfl (La rfl rfl rfl ty42 rfl (Tl rfl)) (Gd rfl rfl rfl ‹_› rfl (C0 (fr:=[]) rfl rfl (hcm) fok42 (.cons rfl (.pure rfl) (.cons rfl (.pure rfl) .nil)) rfl) (Gd rfl rfl rfl ‹_› rfl (Ls rfl rfl rfl) (qT rfl rfl ‹_› rfl (Nl ⟨by kernel_rfl,(Wt rfl ‹_› (Wk (Wb (qW 92 95 rfl rfl rfl (qM rfl rfl (qZ rfl rfl rfl (by (first|exact IntWalk.i64_in _ (by omega)|assumption)) (qA rfl rfl (Nl (WL.rename [(0,0),(1,1),(2,2)] 3 (by decide) ?_ ?_ (ihC (n + 1) (show ds.length - (n + 1) < ds.length - n from by omega) (show (n + 1)≤ds.length from by omega)))))))))))⟩)))))))))))))))))
            · (repeat' (first|exact all_mt|refine all_up ?_ ?_))<;>first|exact .inl ⟨rfl,rfl⟩|exact .inr ⟨rfl,fun _ h=>by cases h⟩|exact .inl ⟨rfl,by first|rfl|assumption|exact (bdsC_pure _)|exact hpw⟩
            · (repeat' (first|exact all_mt|refine all_up ?_ ?_))<;>first|exact ⟨rfl,_,rfl,.inr ⟨rfl,rfl⟩⟩|exact ⟨rfl,_,rfl,.inl rfl⟩|exact ⟨rfl,_,rfl,.inr ⟨rfl,by first|rfl|assumption|exact (bdsC_pure _)|exact hpw⟩⟩
          case' false =>
            refine Wq (Wq (Wd 74 88 (by decide) rfl mixed rfl (qM rfl rfl (qM rfl rfl (Od rfl rfl (LO.len rfl rfl ty31) (qK rfl rfl rfl (qM rfl rfl (Gd rfl rfl rfl ‹_› rfl (Mv rfl rfl) (Gd rfl rfl rfl ‹_› rfl (Mv rfl rfl) (Gd rfl rfl rfl ‹_› rfl (Ia rfl rfl rfl rfl ty31 ty85 (by first|omega|decide|assumption|(simp;done)|(simp;omega))) (Gd rfl rfl rfl ‹_› rfl (Fa rfl rfl ty85 rfl (by decide)) (Gd rfl rfl rfl ‹_› rfl (La rfl rfl rfl ty42 rfl htn0) (Gd rfl rfl rfl ‹_› rfl (La rfl rfl rfl ty42 rfl (Tl rfl)) (Gd rfl rfl rfl ‹_› rfl (C0 (fr:=[]) rfl rfl (hcm) fok42 (.cons rfl (.pure rfl) (.cons rfl (.pure rfl) .nil)) rfl) (Gd rfl rfl rfl ‹_› rfl (Ls rfl rfl rfl) (qT rfl rfl ‹_› rfl (Nl ⟨by kernel_rfl,(Wf rfl ‹_› (Wx ?_))⟩)))))))))))))))))
        case' neg =>
          have g3:decide ((n:Int) < (ds.length:Int))=false:=decide_eq_false (by omega)
          refine Wq (Wq (Wd 74 88 (by decide) rfl mixed rfl (qM rfl rfl (qM rfl rfl (Od rfl rfl (LO.len rfl rfl ty31) (qK rfl rfl rfl (qM rfl rfl (Sd rfl rfl rfl ‹_› rfl (Sd rfl rfl rfl ‹_› rfl (Sd rfl rfl rfl ‹_› rfl (Sd rfl rfl rfl ‹_› rfl (Sd rfl rfl rfl ‹_› rfl (Sd rfl rfl rfl ‹_› rfl (Sd rfl rfl rfl ‹_› rfl (Sd rfl rfl rfl ‹_› rfl (qP rfl rfl ‹_› rfl (Nl ⟨by kernel_rfl,(Wf rfl rfl (Wx ?_))⟩)))))))))))))))))
        all_goals
          clear ihC
          have h6:=hm6 _ (List.getElem_mem (show 0 < macs.length by omega))
          have hmt:=macs_tk hm6 (show 0 < macs.length by omega)
          have hmh:macOf ⟨id,sw,sp,macs,v4,v6⟩=macs[0]'(by omega):=by
            unfold macOf
            match macs,hnm with
            | x::l,_=>rfl
          generalize macs[0]'(by omega)=mc at hmt hmh h6
          obtain ⟨a0,a1,a2,a3,a4,a5,rfl⟩:∃ a0 a1 a2 a3 a4 a5,mc=[a0,a1,a2,a3,a4,a5]:=by
            match mc,h6 with
            | [a0,a1,a2,a3,a4,a5],_=>exact ⟨_,_,_,_,_,_,rfl⟩
          obtain ⟨t1,t2⟩:=bds_split hmd ‹n≤ds.length›
          have hmt':MacOk (ds.take n):=fun b hb=>hmd b (List.mem_of_mem_take hb)
          have hln:(ds.take n).length=n - 0:=by rw [List.length_take];omega
          have ta:=bds_all hmt'
          rw [hln] at ta
          have hnd:MacOk (ds.take n++[⟨a,[a0,a1,a2,a3,a4,a5],id⟩]):=fun b hb=>by
            rcases List.mem_append.1 hb with h|h
            · exact hmt' b h
            · simp at h;rw [h];rfl
          have tb:=bds_all hnd
          rw [List.length_append,hln,show bdsC (ds.take n++[⟨a,[a0,a1,a2,a3,a4,a5],id⟩])=bdsC (ds.take n)++bdC ⟨a,[a0,a1,a2,a3,a4,a5],id⟩ from by simp [bdsC]] at tb
          refine Wd 99 118 (by decide) rfl mixed rfl (qM rfl rfl (qM rfl rfl (Od rfl rfl (LO.slice rfl rfl Bnd.no (Ba rfl rfl) (by omega) (by omega) ty31 ty85) (Od rfl rfl (Lan rfl rfl (Sso rfl rfl (show Tk (bdsC ds) (0 + 0 * 10) ((n - 0) * 10) (bdsC (ds.take n)) from t1)) ty31 ty31 ty85 (by decide) (by omega) (by omega) (by decide)) (qG rfl rfl rfl ty42 rfl (Tl rfl) (qF rfl rfl ty102 rfl rfl (qL rfl rfl rfl rfl ty32 rfl (qJ rfl rfl rfl rfl rfl ty32 ty23 (by first|omega|decide|assumption|(simp;done)|(simp;omega)) (Od rfl rfl (Lg rfl rfl ty23 rfl hmt) (qF rfl rfl ty102 rfl rfl (qL rfl rfl rfl rfl ty3 rfl (Od rfl rfl (Bs rfl ty85 (.cons rfl rfl rfl rfl (Sl rfl) (.cons rfl rfl rfl rfl (Sl rfl) (.cons rfl rfl rfl rfl (Sl rfl) .nil)))) (Od rfl rfl (LO.buildSlice rfl ty31 ty85 (by decide) (by decide) (.cons rfl rfl rfl rfl (Sl rfl) .nil)) (Od rfl rfl (Lap rfl rfl (Sso rfl rfl (Tl rfl)) rfl ta ty31 ty31 ty85 (by decide) (by omega) (by omega) (by decide)) (qM rfl rfl (qM rfl rfl (Od rfl rfl (LO.slice rfl rfl (Ba rfl rfl) Bnd.no (by omega) (by omega) ty31 ty85) (Od rfl rfl (Lap rfl rfl (Sso rfl rfl (show Tk (bdsC ds) (0 + n * 10) ((ds.length - n) * 10) (bdsC (ds.drop n)) from by rw [Nat.zero_add];exact t2)) rfl tb ty31 ty31 ty85 (by decide) (by omega) (by omega) (by decide)) (qA rfl rfl (Nl ⟨by kernel_rfl,?_⟩))))))))))))))))))))
          rw [show (bdsC (ds.take n)++bdC ⟨a,[a0,a1,a2,a3,a4,a5],id⟩)++bdsC (ds.drop n)=bdsC (ds.take n++⟨a,[a0,a1,a2,a3,a4,a5],id⟩::ds.drop n) from by simp [bdsC,bdC,adC,bytesC],show n - 0 + 1 + (ds.length - n)=(ds.take n++(⟨a,[a0,a1,a2,a3,a4,a5],id⟩:Bd)::ds.drop n).length from by rw [List.length_append,hln,List.length_cons,List.length_drop];omega]
          refine qW 122 124 rfl rfl rfl (qZ rfl rfl rfl (by (first|exact IntWalk.i64_in _ (by omega)|assumption)) (qM rfl rfl (Nl ?_)))
          have hperm:List.Perm (ds.take n++(⟨a,[a0,a1,a2,a3,a4,a5],id⟩:Bd)::ds.drop n) (bdsOf (ps.take i)++bdsAt ⟨id,sw,sp,macs,v4,v6⟩ ((W2.take (k + 1)).flatMap ad1)):=by
            refine (List.perm_middle).trans ?_
            rw [List.take_append_drop,hwk,ha1]
            have e:bdsAt ⟨id,sw,sp,macs,v4,v6⟩ ((W2.take k).flatMap ad1++[a])=bdsAt ⟨id,sw,sp,macs,v4,v6⟩ ((W2.take k).flatMap ad1)++[⟨a,[a0,a1,a2,a3,a4,a5],id⟩]:=by
              unfold bdsAt
              rw [List.map_append,hmh]
              rfl
            rw [e,← List.append_assoc]
            exact (List.perm_append_comm (l₁:=[_])).trans (hpd.append_right _)
          have hmo3:MacOk (ds.take n++(⟨a,[a0,a1,a2,a3,a4,a5],id⟩:Bd)::ds.drop n):=fun b hb=>by
            rcases List.mem_append.1 hb with h|h
            · exact hmt' b h
            · rcases List.mem_cons.1 h with h|h
              · rw [h];rfl
              · exact hmd b (List.mem_of_mem_drop h)
          refine WL.rename [(0,116),(1,1)] 2 (by decide) ?_ ?_ (ihB ((k + 1),(ds.take n++(⟨a,[a0,a1,a2,a3,a4,a5],id⟩:Bd)::ds.drop n)) (show 2 - (k + 1) < 2 - k from by omega) (show (k + 1)≤2∧MacOk (ds.take n++(⟨a,[a0,a1,a2,a3,a4,a5],id⟩:Bd)::ds.drop n)∧List.Perm (ds.take n++(⟨a,[a0,a1,a2,a3,a4,a5],id⟩:Bd)::ds.drop n) (bdsOf (ps.take i)++bdsAt ⟨id,sw,sp,macs,v4,v6⟩ ((W2.take (k + 1)).flatMap ad1))∧(ds.take n++(⟨a,[a0,a1,a2,a3,a4,a5],id⟩:Bd)::ds.drop n).length≤2 * i + (k + 1) from ⟨by omega,hmo3,hperm,by rw [List.length_append,hln,List.length_cons,List.length_drop];omega⟩))
          · (repeat' (first|exact all_mt|refine all_up ?_ ?_))<;>first|exact .inl ⟨rfl,rfl⟩|exact .inr ⟨rfl,fun _ h=>by cases h⟩|exact .inl ⟨rfl,by first|rfl|assumption|exact (bdsC_pure _)|exact hpw⟩
          · (repeat' (first|exact all_mt|refine all_up ?_ ?_))<;>first|exact ⟨rfl,_,rfl,.inr ⟨rfl,rfl⟩⟩|exact ⟨rfl,_,rfl,.inl rfl⟩|exact ⟨rfl,_,rfl,.inr ⟨rfl,by first|rfl|assumption|exact (bdsC_pure _)|exact hpw⟩⟩
      · have ha1:ad1 a=[]:=by unfold ad1;rw [hz];rfl
        rw [ha1,List.append_nil] at hwk
        refine Wq (Wq (qW 56 65 rfl rfl rfl (qG rfl rfl rfl ty42 rfl (Tl rfl) (Od rfl rfl (Bs rfl ty42 .nil) (Od rfl rfl (LO.eql_adz a rfl rfl rfl) (qM rfl rfl (Sd rfl rfl rfl ‹_› rfl (Sd rfl rfl rfl ‹_› rfl (Sd rfl rfl rfl ‹_› rfl (Sd rfl rfl rfl ‹_› rfl (qT rfl rfl ‹_› rfl (Nl (Wt rfl rfl (Wx (qW 122 124 rfl rfl rfl (qZ rfl rfl rfl (by (first|exact IntWalk.i64_in _ (by omega)|assumption)) (qM rfl rfl (Nl (WL.rename [(0,0),(1,1)] 2 (by decide) ?_ ?_ (ihB ((k + 1),ds) (show 2 - (k + 1) < 2 - k from by omega) (show (k + 1)≤2∧MacOk ds∧List.Perm ds (bdsOf (ps.take i)++bdsAt ⟨id,sw,sp,macs,v4,v6⟩ ((W2.take (k + 1)).flatMap ad1))∧ds.length≤2 * i + (k + 1) from ⟨by omega,hmd,by rw [hwk];exact hpd,by omega⟩)))))))))))))))))))))
        · (repeat' (first|exact all_mt|refine all_up ?_ ?_))<;>first|exact .inl ⟨rfl,rfl⟩|exact .inr ⟨rfl,fun _ h=>by cases h⟩|exact .inl ⟨rfl,by first|rfl|assumption|exact (bdsC_pure _)|exact hpw⟩
        · (repeat' (first|exact all_mt|refine all_up ?_ ?_))<;>first|exact ⟨rfl,_,rfl,.inr ⟨rfl,rfl⟩⟩|exact ⟨rfl,_,rfl,.inl rfl⟩|exact ⟨rfl,_,rfl,.inr ⟨rfl,by first|rfl|assumption|exact (bdsC_pure _)|exact hpw⟩⟩
    · have g2:decide ((k:Int) < 2)=false:=decide_eq_false (by omega)
      refine Wq (qW 43 44 rfl rfl rfl (qK rfl rfl rfl (Nl (Wq (Wf rfl ‹_› (Wx ?_))))))
      clear ihB
      obtain rfl:k=2:=by omega
      rw [show W2.take 2=W2 from by rw [← hw2,List.take_length],← hbo] at hpd
      refine qW 128 130 rfl rfl rfl (qZ rfl rfl rfl (by (first|exact IntWalk.i64_in _ (by omega)|assumption)) (qM rfl rfl (Nl (WL.rename [(0,0)] 1 (by decide) ?_ ?_ (ihA ((i + 1),ds) (show ps.length - (i + 1) < ps.length - i from by omega) (show (i + 1)≤ps.length∧MacOk ds∧List.Perm ds (bdsOf (ps.take (i + 1)))∧ds.length≤2 * (i + 1) from ⟨by omega,hmd,hpd,by omega⟩))))))
      · (repeat' (first|exact all_mt|refine all_up ?_ ?_))<;>first|exact .inl ⟨rfl,rfl⟩|exact .inr ⟨rfl,fun _ h=>by cases h⟩|exact .inl ⟨rfl,by first|rfl|assumption|exact (bdsC_pure _)|exact hpw⟩
      · (repeat' (first|exact all_mt|refine all_up ?_ ?_))<;>first|exact ⟨rfl,_,rfl,.inr ⟨rfl,rfl⟩⟩|exact ⟨rfl,_,rfl,.inl rfl⟩|exact ⟨rfl,_,rfl,.inr ⟨rfl,by first|rfl|assumption|exact (bdsC_pure _)|exact hpw⟩⟩
  · have g1:decide ((i:Int) < (ps.length:Int))=false:=decide_eq_false (by omega)
    refine Wq (qW 19 20 rfl rfl rfl (qK rfl rfl rfl (Nl (Wq (Wf rfl ‹_› (Wx ?_))))))
    clear ihA
    obtain rfl:i=ps.length:=by omega
    rw [List.take_length] at hpm
    refine Wq (qW 134 136 rfl rfl rfl (qM rfl rfl (qA rfl rfl (Nl (Wy (t:=2) rfl rfl (bds_all hmo) (bdsC_pure _) ?_)))))
    refine W.ret ⟨.inl rfl,_,mt,(RVs.cons (RV.tmp rfl) RVs.nil),(by (repeat' (first|exact all_mt|refine all_up ?_ ?_))<;>rfl),?_⟩
    exact ⟨bs,⟨hpm,hmo⟩,rfl,rfl⟩
end Go.Proofs.YtcidmiacfjdepaaGreatDoor
