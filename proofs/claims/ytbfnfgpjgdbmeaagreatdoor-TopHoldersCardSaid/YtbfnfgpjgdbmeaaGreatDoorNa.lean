/-
  Clearing a slice that is owned. Lists of numbers that are searched; records that are written in rows. Ranges of addresses, spans, resources, certificates and signed origins in memory.
-/
import Derived.Test.YtbfnfgpjgdbmeaaGreatDoorVw
import Derived.Test.YtbfnfgpjgdbmeaaGreatDoorMab
import Derived.Test.YtbfnfgpjgdbmeaaGreatDoorHe
namespace Go.Proofs.YtbfnfgpjgdbmeaaGreatDoor
open Go.RowKit Go.Lib
section
variable {P:Program} {o:Oper} {E:Operand→Option AV} {H:Hp} {f:Nat} {t:TypeId} {size bytes:Nat} {zero:List AV} {x:Operand} {e sz by':Nat} {l':Lay} {z':List AV}
theorem LO.clear {r off len:Nat} {cs cs':List AV} (ho:o.op=.call { callee:=.builtin .clear,args:=#[x],argTypes:=#[t] }) (hx:E x=some (.osl r off len sz)) (hH:H r=some cs) (hs:Cp cs off (zerosL len z') cs')
 (ht:TyOK P t (.sl e) size bytes zero) (he:TyOK P e l' sz by' z') (h0:0 < sz) (hl0:0 < len) :
 LO P o E H f [] [r] (.tup []) (up H r (some cs')):=by
 refine ⟨fun r' hr=>up_ne (by simpa using hr),fun E' K hE hK X φ w ρ hR hst hf=>?_⟩
 rw [ovr_one]
 have hKr:=(hK r (.inr (by simp))).trans hH
 obtain ⟨A,cap,e1,hc,hcase⟩:=(hR x _ ((hE x (by simp [ho,Op.operands,Call.operands])).trans hx)).osl_inv
 obtain ⟨z,hz0,hzs,hzm,hzl,hz1⟩:=he.zeroV
 obtain ⟨i,zz,hi,hsz,hby,hz,_⟩:=info_of he
 have hzz:zz=z:=by
  have h:=hz0 w
  simp [zeroValue,typeInfo,hi,hz] at h
  exact h
 subst hzz
 subst hsz
 have hgz:=good_zeros (X:=X) (w:=w) (φ:=φ) len hzm hz1 (by omega)
 rw [hzl] at hgz
 obtain ⟨news,hnews⟩:∃ news:List Value,(Builtin.zeroCells zz.cells len).toList=news:=⟨_,rfl⟩
 have hnl:news.length=len * i.size:=by rw [← hnews,Array.length_toList,size_zeroCells,hzs]
 have hzn:(zerosL len z').length=news.length:=by rw [zerosL_len,hzl,← hnl]
 have hns:∀ (j:Nat) c,(zerosL len z')[j]?=some c→c.one=true∧∃ u,news[j]?=some u∧Rep X w φ u c:=fun j c hj=>by
  obtain ⟨g1,u,g2,g3⟩:=hgz.2 j c hj
  refine ⟨g1,u,?_,g3⟩
  have h9:(Builtin.zeroCells zz.cells len)[j]?=some u:=by
   unfold Builtin.zeroCells
   rw [hzs]
   rw [hzs] at g2
   exact g2
  rw [← hnews,Array.getElem?_toList]
  exact h9
 have hn1:∀ u∈news,u.oneCell'=true:=fun u hu=>by
  obtain ⟨j,hj⟩:=List.getElem?_of_mem hu
  have hlt:j < (zerosL len z').length:=by rw [hzn];exact (List.getElem?_eq_some_iff.1 hj).1
  obtain ⟨g1,u',g2,g3⟩:=hns j _ (List.getElem?_eq_getElem hlt)
  rw [hj] at g2;injection g2 with g2;subst g2
  exact g3.oneCell g1
 obtain ⟨rfl,h1⟩|⟨b,o',hp,rfl,hbs⟩:=hcase
 ·omega
 obtain ⟨c,el,hX,hh,hcs⟩:=hst.cells hKr hp (by omega)
 have hfit:o' + off + news.length≤c.size:=by
  rw [bsz_of hh] at hbs
  have:len * i.size≤cap * i.size:=Nat.mul_le_mul_right _ (by omega)
  omega
 have hrun:=run_storeCells_at P b (o' + off) el news 0 c w hh (by simpa using hfit) hn1
 simp only [Nat.add_zero] at hrun
 have hget:=splice_get c.toList news (o' + off)
 generalize hc':(c.toList.take (o' + off)++news++c.toList.drop (o' + off + news.length)).toArray=c' at hrun
 have hc'g:∀ i,c'[i]?=if i < o' + off then c[i]? else if i < o' + off + news.length then news[i - (o' + off)]? else c[i]?:=by
  intro i
  rw [← hc']
  have:=hget i (by simpa using hfit)
  simpa using this
 have hc's:c'.size=c.size:=by rw [← hc'];simp;omega
 obtain ⟨n1,n2,n3⟩:=hst.put (f:=f) (w':=w.setRow b c') (c':=c') (cs':=cs') hKr hp hh rfl rfl rfl (by simp) (fun b' hb'=>setRow_other w b b' c' hb') (setRow_heap w b c c' el (0,0) hh) hc's (fun j d hj=>by
  rw [hc'g]
  rcases hs j d hj with ⟨h3,h4⟩|⟨h3,h4⟩
  ·have hlt:j - off < (zerosL len z').length:=(List.getElem?_eq_some_iff.1 h4).1
   obtain ⟨h5,u,h6,h7⟩:=hns _ d h4
   refine ⟨h5,u,?_,h7⟩
   rw [if_neg (by omega),if_pos (by omega),show o' + j - (o' + off)=j - off from by omega]
   exact h6
  ·obtain ⟨h5,u,h6,h7⟩:=hcs j d h4
   refine ⟨h5,u,?_,h7⟩
   rcases h3 with h3|h3
   ·rw [if_pos (by omega)];exact h6
   ·rw [if_neg (by omega),if_neg (by omega)];exact h6)
 obtain ⟨n,rfl⟩:∃ n,len=n + 1:=⟨len - 1,by omega⟩
 have hcr:(Builtin.clear_ #[t] o.type #[.slice (some ⟨b,o' + off,none⟩) (n + 1) cap]).run P w=.ok (.tuple #[]) (w.setRow b c'):=by
  simp only [Builtin.clear_,Sem.run_bind,Sem.run_pure,Result.andThen_ok,List.getElem?_toArray,List.getElem?_cons_zero,run_underlying (lay_sl ht),hz0,hnews,hrun]
 unfold OpW
 simp only [execOp,ho,resolve,invoke,Go.builtin,Sem.run_bind,Sem.run_pure,Result.andThen_ok,List.map_toArray,List.map_cons,List.map_nil,e1,hcr]
 exact ⟨X,φ,n1,n2,.tup _ _ rfl fun i v c _ hc=>(by simp at hc)⟩
end
theorem W.conv {P:Program} {k n m:Nat} {T:Tp} {H:Hp} {K:Exit→Nat→Tp→Hp→Prop} {c:Code} {t:Nat} {x y:AV} (ht:T t=some x) (hw:∀ (X:Nat→Prop) (φ:Em) (w:World) (v:Value),Rep X w φ v x→Rep X w φ v y) (h:W P k n c m (up T t (some y)) H K):W P k n c m T H K:=by
 obtain ⟨e,m2,T2,H2,h1,h2⟩:=h
 refine ⟨e,m2,T2,H2,h1,fun B hB a w hs=>h2 B hB a w ?_⟩
 obtain ⟨h0,X,φ,g1,g2,g3,g4,g5,g6⟩:=hs
 exact ⟨h0,X,φ,g1,g2,g3,g4,all_up (p:=fun t v=>Rep X w φ (a.tmps.getD t undef) v) (hw X φ w _ (g5 t _ ht)) g5,g6⟩
end Go.Proofs.YtbfnfgpjgdbmeaaGreatDoor
namespace Go.Proofs.YtbfnfgpjgdbmeaaGreatDoor
open Go.RowKit
def ixF (x:Int):List Int→Nat→Int
 | [],_=>-1
 | y::l,k=>if x=y then (k:Int) else ixF x l (k + 1)
theorem ixF_ge (x:Int):∀ (l:List Int) (k:Nat),0≤ixF x l k↔x∈l:=by
 intro l
 induction l with
 | nil=>intro k;simp [ixF]
 | cons y l ih =>
  intro k
  unfold ixF
  by_cases h:x=y
  ·rw [if_pos h];simp [h]
  ·rw [if_neg h,ih];simp [h]
theorem ints_at {l:List Int} {k:Nat} (h:k < l.length):(intsC l)[k * 1]?=some (.base (.int .i64 l[k])):=by simp [intsC,h]
theorem index_any (l:List Int) (x0:Int) (hl:l.length≤1000):AFn Tryz.prog 147 0 [.isl (intsC l) l.length,.base (.int .i64 x0)] mt (.base (.int .i64 (ixF x0 l 0))) mt:=by
 refine AFn.eq Tryz.func147 rfl rfl (Nat.le_of_ble_eq_true rfl) ?_
 obtain ⟨R,hR⟩:∃ R,ixF x0 l 0=R:=⟨_,rfl⟩
 rw [hR]
 refine Wq<|qW 0 1 rfl<|qA rfl<|Nl<|Wq<|Wq<|qW 5 8 rfl<|qM rfl<|qH rfl ty22<|qM rfl<|Nl<|Wb<|W.rename [] 0 (by decide) ?_ ?_ (W.loop_ind (α:=Nat) (fun x=>l.length - x) 0 (fun x=>up (up (up (up mt 0 (some (.isl (intsC l) l.length))) 1 (some (.base (.int .i64 x0)))) 7 (some (.base (.int .i64 (l.length:Int))))) 8 (some (.base (.int .i64 (x:Int))))) (fun x=>mt) (fun x=>x≤l.length∧ixF x0 (l.drop x) x=R) 0 (show 0≤l.length∧ixF x0 (l.drop 0) 0=R from ⟨Nat.zero_le _,hR⟩) ?_)
 ·exact aR (aR (aR (aR aM)))
 ·exact aM
 rintro k hIA ihA
 try (dsimp only at hIA)
 try dsimp only
 obtain ⟨hk,hI⟩:=hIA
 by_cases hc:k < l.length
 ·have g1:decide ((k:Int) < (l.length:Int))=true:=decide_eq_true (by omega)
  have hkk:(k:Int) + 1=((k + 1:Nat):Int):=by omega
  have hat:=ints_at hc
  rw [List.drop_eq_getElem_cons hc] at hI
  obtain ⟨y,hy⟩:∃ y,l[k]=y:=⟨_,rfl⟩
  rw [hy] at hat hI
  unfold ixF at hI
  refine Wq<|qW 12 13 rfl<|qK rfl<|Nl<|Wq<|Wt rfl ‹_›<|Wu<|Wq<|Wb<|Wq<|qW 17 19 rfl<|qM rfl<|qA rfl<|Nl ?_
  by_cases hxy:x0=y
  ·have g2:(x0 == y)=true:=by simp [hxy]
   rw [if_pos hxy] at hI
   refine Wq<|qW 23 29 rfl<|qM rfl<|qM rfl<|qM rfl<|qJ rfl rfl ty22 ty3 (by omega)<|Od rfl rfl (Li rfl rfl hat ty3 rfl)<|qE rfl<|Nl<|Wt rfl ‹_›<|Wq<|qW 33 35 rfl<|qM rfl<|qA rfl<|Nl<|Wz ⟨.inl rfl,_,mt,(Rc (Rt0 rfl) Rv),aM,?_⟩
   exact ⟨by rw [hI];rfl,rfl⟩
  ·have g2:(x0 == y)=false:=by simp [hxy]
   rw [if_neg hxy] at hI
   refine Wq<|qW 23 29 rfl<|qM rfl<|qM rfl<|qM rfl<|qJ rfl rfl ty22 ty3 (by omega)<|Od rfl rfl (Li rfl rfl hat ty3 rfl)<|qE rfl<|Nl<|Wo rfl ‹_›<|Wu<|qW 39 41 rfl<|qZ rfl (iW _ (by omega))<|qM rfl<|Nl ?_
   rw [hkk]
   refine WL.rename [] 0 (by decide) ?_ ?_ (ihA (k + 1) (show l.length - (k + 1) < l.length - k from by omega) (show (k + 1)≤l.length∧ixF x0 (l.drop (k + 1)) (k + 1)=R from ⟨by omega,hI⟩))
   ·exact aR (aR (aR (aR aM)))
   ·exact aM
 ·have g1:decide ((k:Int) < (l.length:Int))=false:=decide_eq_false (by omega)
  rw [List.drop_eq_nil_of_le (by omega)] at hI
  refine Wq<|qW 12 13 rfl<|qK rfl<|Nl<|Wq<|Wo rfl ‹_›<|Wx<|Wq<|qW 45 46 rfl<|qA rfl<|Nl<|Wz ⟨.inl rfl,_,mt,(Rc (Rt0 rfl) Rv),aM,?_⟩
  exact ⟨by rw [← hI];rfl,rfl⟩
theorem contains_ints (l:List Int) (x0:Int) (hl:l.length≤1000):AFn Tryz.prog 80 0 [.isl (intsC l) l.length,.base (.int .i64 x0)] mt (.base (.bool (decide (x0∈l)))) mt:=by
 refine AFn.eq Tryz.func80 rfl rfl (Nat.le_of_ble_eq_true rfl) ?_
 have h1:=index_any l x0 hl
 have h2:decide (ixF x0 l 0 ≥ 0)=decide (x0∈l):=by
  by_cases h:x0∈l
  ·rw [decide_eq_true h,decide_eq_true ((ixF_ge x0 l 0).2 h)]
  ·rw [decide_eq_false h,decide_eq_false fun h3=>h ((ixF_ge x0 l 0).1 h3)]
 refine Wq<|qW 0 1 rfl<|qA rfl<|Nl<|Wq<|qW 5 10 rfl<|qM rfl<|qM rfl<|qY rfl (h1) fok147 rfl<|qGe rfl<|qA rfl<|Nl<|Wz ⟨.inl rfl,_,mt,(Rc (Rt0 rfl) Rv),aM,?_⟩
 exact ⟨by rw [h2];rfl,rfl⟩
theorem take_s1 {α:Type} {l:List α} {k:Nat} (h:k < l.length):l.take (k + 1)=l.take k++[l[k]]:=by
 rw [List.take_add_one,List.getElem?_eq_getElem h];rfl
theorem Sp.shift {cs ns cs':List AV} {k:Nat} (h:Sp cs k ns cs'):∀ p:List AV,Sp (p++cs) (p.length + k) ns (p++cs'):=by
 intro p
 induction p with
 | nil=>simpa using h
 | cons a p ih =>
  have:=Sp.skip (c:=a) ih
  rw [show (a::p).length + k=p.length + k + 1 from by simp;omega]
  exact this
theorem Sp.head {a b r:List AV} (h:a.length=b.length):Sp (a++r) 0 b (b++r):=by
 have:=Sp.of (a++r) 0 b (by simp;omega)
 rwa [List.take_zero,List.nil_append,Nat.zero_add,← h,List.drop_left] at this
theorem flat_sp {α:Type} {c:α→List AV} {n:Nat} (hc:∀ x,(c x).length=n) (v:α):∀ (l:List α) (i:Nat),i < l.length→Sp (l.flatMap c) (i * n) (c v) ((l.set i v).flatMap c):=by
 intro l
 induction l with
 | nil=>intro i h;simp at h
 | cons x l ih =>
  intro i h
  cases i with
  | zero =>
   rw [Nat.zero_mul]
   exact Sp.head (a:=c x) (b:=c v) (by rw [hc,hc])
  | succ i =>
   have:=(ih i (by simpa using h)).shift (c x)
   rw [hc] at this
   rw [show (i + 1) * n=n + i * n from by rw [Nat.succ_mul];omega]
   exact this
theorem objs_sp {l:List ObjR} {i:Nat} (v:ObjR) (h:i < l.length):Sp (objsC l) (0 + i * 6) (objC v) (objsC (l.set i v)):=by
 rw [Nat.zero_add]
 exact flat_sp (c:=objC) (fun _=>rfl) v l i h
theorem objs_tk0 {l:List ObjR} {k:Nat} (h:k < l.length):Tk (objsC l) (0 + k * 6) 6 (objC l[k]):=by rw [Nat.zero_add];exact objs_tk h
theorem objsC_len (l:List ObjR):(objsC l).length=l.length * 6:=flatLen (c:=objC) (fun _=>rfl) l
theorem objsC_ne {l:List ObjR} (h:0 < l.length):objsC l≠[]:=fun e=>by have:=objsC_len l;rw [e] at this;simp at this;omega
def ozC:List AV:=[.base (.bool false),.base (.int .u64 0),.base (.int .u64 0),.base (.int .i64 0),.base (.int .i64 0),.base (.int .i64 0)]
theorem objs_clr {l:List ObjR} {i:Nat} (h:i≤l.length):Cp (objsC l) (0 + i * 6) (zerosL (l.length - i) ozC) (objsC (l.take i)++zerosL (l.length - i) ozC):=fun j c hj=>by
 have ht:(objsC (l.take i)).length=i * 6:=by rw [objsC_len,List.length_take,Nat.min_eq_left h]
 rcases Nat.lt_or_ge j (i * 6) with h1|h1
 ·refine .inr ⟨.inl (by omega),?_⟩
  rw [List.getElem?_append_left (by omega)] at hj
  have:objsC l=objsC (l.take i)++objsC (l.drop i):=by rw [← objsC_app,List.take_append_drop]
  rw [this,List.getElem?_append_left (by omega)]
  exact hj
 ·refine .inl ⟨by omega,?_⟩
  rw [List.getElem?_append_right (by omega),ht] at hj
  rwa [Nat.zero_add]
theorem objs_pre {l:List ObjR} {cs:List AV} {n:Nat} (h:l.length=n):Tk (objsC l++cs) 0 (n * 6) (objsC l):=⟨by rw [objsC_len,h],fun j c hj=>by
 rw [Nat.zero_add,List.getElem?_append_left (List.getElem?_eq_some_iff.1 hj).1]
 exact hj⟩
def rngC (x:Int × Int):List AV:=adC (adOf x.1)++adC (adOf x.2)
def rngsC (l:List (Int × Int)):List AV:=l.flatMap rngC
def spnC (x:Int × Int):List AV:=[.base (.int .i64 x.1),.base (.int .i64 x.2)]
def spnsC (l:List (Int × Int)):List AV:=l.flatMap spnC
def rscC (r:Rsc):List AV:=[.isl (rngsC r.ad) r.ad.length,.isl (spnsC r.ns) r.ns.length]
def certC (c:CertR):List AV:=[.base (.int .i64 c.key),.base (.int .i64 c.iss),.base (.int .i64 c.fr),.base (.int .i64 c.un),.isl (rngsC c.r.ad) c.r.ad.length,.isl (spnsC c.r.ns) c.r.ns.length]
def certsC (l:List CertR):List AV:=l.flatMap certC
structure SgR where
 key:Int
 asn:Int
 fr:Int
 un:Int
 os:List ObjR
def sgC (s:SgR):List AV:=[.base (.int .i64 s.key),.base (.int .i64 s.asn),.base (.int .i64 s.fr),.base (.int .i64 s.un),.isl (objsC s.os) s.os.length]
def sgsC (l:List SgR):List AV:=l.flatMap sgC
theorem rngsC_pure (l:List (Int × Int)):(rngsC l).all AV.pure1=true:=flatPure (c:=rngC) (fun _=>rfl) l
theorem spnsC_pure (l:List (Int × Int)):(spnsC l).all AV.pure1=true:=flatPure (c:=spnC) (fun _=>rfl) l
theorem certsC_pure (l:List CertR):(certsC l).all AV.pure1=true:=flatPure (c:=certC) (fun _=>rfl) l
theorem sgsC_pure (l:List SgR):(sgsC l).all AV.pure1=true:=flatPure (c:=sgC) (fun _=>rfl) l
theorem rngsC_len (l:List (Int × Int)):(rngsC l).length=l.length * 6:=flatLen (c:=rngC) (fun _=>rfl) l
theorem spnsC_len (l:List (Int × Int)):(spnsC l).length=l.length * 2:=flatLen (c:=spnC) (fun _=>rfl) l
theorem rngsC_app (a b:List (Int × Int)):rngsC (a++b)=rngsC a++rngsC b:=by simp [rngsC]
theorem spnsC_app (a b:List (Int × Int)):spnsC (a++b)=spnsC a++spnsC b:=by simp [spnsC]
theorem certsC_app (a b:List CertR):certsC (a++b)=certsC a++certsC b:=by simp [certsC]
theorem sgsC_app (a b:List SgR):sgsC (a++b)=sgsC a++sgsC b:=by simp [sgsC]
theorem rngs_all {l:List (Int × Int)} {n:Nat} (h:l.length=n):Tk (rngsC l) 0 (n * 6) (rngsC l):=flatAll (c:=rngC) (fun _=>rfl) h
theorem spns_all {l:List (Int × Int)} {n:Nat} (h:l.length=n):Tk (spnsC l) 0 (n * 2) (spnsC l):=flatAll (c:=spnC) (fun _=>rfl) h
theorem certs_all {l:List CertR} {n:Nat} (h:l.length=n):Tk (certsC l) 0 (n * 6) (certsC l):=flatAll (c:=certC) (fun _=>rfl) h
theorem sgs_all {l:List SgR} {n:Nat} (h:l.length=n):Tk (sgsC l) 0 (n * 5) (sgsC l):=flatAll (c:=sgC) (fun _=>rfl) h
theorem rng_tk' {l:List (Int × Int)} {k:Nat} (h:k < l.length):Tk (rngsC l) (k * 6) 6 (rngC l[k]):=flat_tk (c:=rngC) (fun _=>rfl) h
theorem spn_tk' {l:List (Int × Int)} {k:Nat} (h:k < l.length):Tk (spnsC l) (k * 2) 2 (spnC l[k]):=flat_tk (c:=spnC) (fun _=>rfl) h
theorem cert_tk {l:List CertR} {k:Nat} (h:k < l.length):Tk (certsC l) (0 + k * 6) 6 (certC l[k]):=by rw [Nat.zero_add];exact flat_tk (c:=certC) (fun _=>rfl) h
theorem cert_tk' {l:List CertR} {k:Nat} (h:k < l.length):Tk (certsC l) (k * 6) 6 (certC l[k]):=flat_tk (c:=certC) (fun _=>rfl) h
theorem sg_tk' {l:List SgR} {k:Nat} (h:k < l.length):Tk (sgsC l) (k * 5) 5 (sgC l[k]):=flat_tk (c:=sgC) (fun _=>rfl) h
theorem rng_snoc (l:List (Int × Int)) (x:Int × Int):rngsC l++rngC x=rngsC (l++[x]):=by rw [rngsC_app];simp [rngsC]
theorem spn_snoc (l:List (Int × Int)) (x:Int × Int):spnsC l++spnC x=spnsC (l++[x]):=by rw [spnsC_app];simp [spnsC]
theorem rng_fr (x:Int × Int):Tk (rngC x) (0 + 0) 3 (adC (adOf x.1)):=⟨rfl,fun j c hj=>by
 match j with
 | 0=>exact hj
 | 1=>exact hj
 | 2=>exact hj
 | j + 3=>simp [adC] at hj⟩
theorem rng_to (x:Int × Int):Tk (rngC x) (0 + 3) 3 (adC (adOf x.2)):=⟨rfl,fun j c hj=>by
 match j with
 | 0=>exact hj
 | 1=>exact hj
 | 2=>exact hj
 | j + 3=>simp [adC] at hj⟩
theorem tk_all {cs:List AV} {n:Nat} (h:cs.length=n):Tk cs 0 n cs:=by rw [← h];exact Tk.all cs
theorem Tk.sub {cs vs ws:List AV} {a n b m k:Nat} (h:Tk cs a n vs) (h2:Tk vs b m ws) (hk:k=a + b):Tk cs k m ws:=⟨h2.1,fun j c hj=>by
 rw [hk,Nat.add_assoc]
 exact h.2 _ _ (h2.2 j c hj)⟩
theorem rngs_pre {s:List (Int × Int)} {j:Nat} (h:j≤s.length):Tk (rngsC s) (0 * 6) ((j - 0) * 6) (rngsC (s.take j)):=by
 rw [Nat.zero_mul,Nat.sub_zero]
 exact flatPre (c:=rngC) (fun _=>rfl) h rfl
theorem spns_pre {s:List (Int × Int)} {j:Nat} (h:j≤s.length):Tk (spnsC s) (0 * 2) ((j - 0) * 2) (spnsC (s.take j)):=by
 rw [Nat.zero_mul,Nat.sub_zero]
 exact flatPre (c:=spnC) (fun _=>rfl) h rfl
theorem flat_suf {α:Type} {c:α→List AV} {n:Nat} (hc:∀ x,(c x).length=n) {s:List α} {j m:Nat} (hm:m=s.length) (h:j≤s.length):Tk (s.flatMap c) (j * n) ((m - j) * n) ((s.drop j).flatMap c):=by
 refine ⟨by rw [flatLen hc,List.length_drop,hm],fun i d hi=>?_⟩
 have e:s.flatMap c=(s.take j).flatMap c++(s.drop j).flatMap c:=by rw [← List.flatMap_append,List.take_append_drop]
 have hl:((s.take j).flatMap c).length=j * n:=by rw [flatLen hc,List.length_take,Nat.min_eq_left h]
 rw [e,List.getElem?_append_right (by omega),hl,Nat.add_sub_cancel_left]
 exact hi
theorem rngs_suf {s:List (Int × Int)} {j:Nat} (h:j≤s.length):Tk (rngsC s) (j * 6) ((s.length - j) * 6) (rngsC (s.drop j)):=flat_suf (c:=rngC) (fun _=>rfl) rfl h
theorem spns_suf {s:List (Int × Int)} {j:Nat} (h:j≤s.length):Tk (spnsC s) (j * 2) ((s.length - j) * 2) (spnsC (s.drop j)):=flat_suf (c:=spnC) (fun _=>rfl) rfl h
theorem rng_snocL (l:List (Int × Int)) (x:Int × Int):rngsC l++[.base (.bool (adOf x.1).v6),.base (.int .u64 (adOf x.1).hi),.base (.int .u64 (adOf x.1).lo),.base (.bool (adOf x.2).v6),.base (.int .u64 (adOf x.2).hi),.base (.int .u64 (adOf x.2).lo)]=rngsC (l++[x]):=rng_snoc l x
theorem spn_snocL (l:List (Int × Int)) (a b:Int):spnsC l++[.base (.int .i64 a),.base (.int .i64 b)]=spnsC (l++[(a,b)]):=spn_snoc l (a,b)
theorem rng_at {p:List (Int × Int)} {y:Int × Int} {k:Nat} (h:k=p.length * 6):Tk (rngsC (p++[y])) k 6 (rngC y):=by
 have:=rng_tk' (l:=p++[y]) (k:=p.length) (by simp)
 rw [h]
 simpa using this
theorem rng_atTo {p:List (Int × Int)} {y:Int × Int} {k:Nat} (h:k=p.length * 6 + 3):Tk (rngsC (p++[y])) k 3 (adC (adOf y.2)):=(rng_at (p:=p) (y:=y) rfl).sub (rng_to y) (by omega)
theorem rng_atV {p:List (Int × Int)} {y:Int × Int} {k:Nat} (h:k=p.length * 6 + 3):(rngsC (p++[y]))[k]?=some (.base (.bool (adOf y.2).v6)):=(rng_atTo (p:=p) (y:=y) h).2 0 _ rfl
theorem rng_store {p:List (Int × Int)} {y:Int × Int} {z:Int} {k:Nat} (h:k=p.length * 6 + 3):Sp (rngsC (p++[y])) k (adC (adOf z)) (rngsC (p++[(y.1,z)])):=by
 rw [← rng_snoc,← rng_snoc,h,← rngsC_len p]
 refine Sp.shift ?_ (rngsC p)
 exact Sp.lit rfl
theorem spn_at {p:List (Int × Int)} {y:Int × Int} {k:Nat} (h:k=p.length * 2 + 1):(spnsC (p++[y]))[k]?=some (.base (.int .i64 y.2)):=by
 have:=spn_tk' (l:=p++[y]) (k:=p.length) (by simp)
 have h2:=this.2 1 (.base (.int .i64 y.2)) (by simp [spnC])
 rw [h];exact h2
theorem spn_store {p:List (Int × Int)} {y:Int × Int} {z:Int} {k:Nat} (h:k=p.length * 2 + 1):Sp (spnsC (p++[y])) k [.base (.int .i64 z)] (spnsC (p++[(y.1,z)])):=by
 rw [← spn_snoc,← spn_snoc,h,← spnsC_len p]
 refine Sp.shift ?_ (spnsC p)
 exact Sp.lit rfl
theorem spn_frV {l:List (Int × Int)} {k q:Nat} (h:k < l.length) (hq:q=k * 2):(spnsC l)[q]?=some (.base (.int .i64 l[k].1)):=by
 have h2:=(spn_tk' h).2 0 (.base (.int .i64 l[k].1)) rfl
 rw [hq];exact h2
theorem rng_frT {l:List (Int × Int)} {k q:Nat} (h:k < l.length) (hq:q=k * 6):Tk (rngsC l) q 3 (adC (adOf l[k].1)):=(rng_tk' h).sub (rng_fr l[k]) (by omega)
theorem rng_toT {l:List (Int × Int)} {k q:Nat} (h:k < l.length) (hq:q=k * 6 + 3):Tk (rngsC l) q 3 (adC (adOf l[k].2)):=(rng_tk' h).sub (rng_to l[k]) (by omega)
theorem plVA {k:Int} (h:0≤k∧k < topK):(adOf k).v6=fmK k:=by
 obtain ⟨h1,h2⟩:=adOf_ok h.1 h.2
 have:=plA_fm h1
 rw [h2] at this
 exact this.symm
theorem InF.b1 {x:Int × Int} (h:InF x):0≤x.1∧x.1 < topK:=⟨h.2.1,by have:=h.1.1;have:=h.2.2;omega⟩
theorem InF.b2 {x:Int × Int} (h:InF x):0≤x.2∧x.2 < topK:=⟨by have:=h.1.1;have:=h.2.1;omega,h.2.2⟩
theorem insR_at {x:Int × Int}:∀ {s:List (Int × Int)} (i:Nat),i≤s.length→(∀ (j:Nat) y,j < i→s[j]?=some y→y.1≤x.1)→(∀ y,s[i]?=some y→¬ y.1≤x.1)→insR x s=s.take i++x::s.drop i:=by
 intro s
 induction s with
 | nil=>intro i hi _ _;simp [insR]
 | cons z s ih =>
  intro i hi h1 h2
  unfold insR
  cases i with
  | zero =>
   rw [if_neg (h2 z rfl)]
   rfl
  | succ i =>
   rw [if_pos (h1 0 z (by omega) rfl),ih i (by simpa using hi) (fun j y hj hy=>h1 (j + 1) y (by omega) (by simpa using hy)) (fun y hy=>h2 y (by simpa using hy))]
   rfl
theorem srtR_step {s l:List (Int × Int)} {k:Nat} (h:k < l.length) (s':List (Int × Int)) (hs:s'=insR l[k] s):srtR s (l.drop k)=srtR s' (l.drop (k + 1)):=by
 rw [List.drop_eq_getElem_cons h,hs];rfl
theorem joins_spn {x y:Int × Int} (hx:InN x) (hy:InN y):joinsR y x=decide (x.1≤y.2 + 1):=by
 obtain ⟨a1,a2,a3⟩:=hx
 obtain ⟨b1,b2,b3⟩:=hy
 unfold joinsR
 have f1:fmK y.2=false:=decide_eq_false (by omega)
 have f2:fmK x.1=false:=decide_eq_false (by omega)
 rw [f1,f2]
 unfold nxK
 by_cases h:y.2=4294967295
 ·rw [if_pos (.inl h)]
  simp;omega
 ·rw [if_neg (by omega)]
  simp
theorem mgR_inN:∀ (l:List (Int × Int)) (y:Int × Int),InN y→(∀ z∈l,InN z)→∀ z∈mgR y l,InN z:=by
 intro l
 induction l with
 | nil=>intro y hy _ z hz;rw [show z=y from List.mem_singleton.1 hz];exact hy
 | cons x l ih =>
  intro y hy hl z hz
  have hx:=hl x (by simp)
  have hl':∀ z∈l,InN z:=fun z hz=>hl z (.tail _ hz)
  unfold mgR at hz
  split at hz
  ·obtain ⟨a1,a2,a3⟩:=hx
   obtain ⟨b1,b2,b3⟩:=hy
   exact ih (y.1,max y.2 x.2) ⟨by show y.1≤max y.2 x.2;omega,b2,by show max y.2 x.2≤4294967295;omega⟩ hl' z hz
  ·rcases List.mem_cons.1 hz with rfl|hz
   ·exact hy
   ·exact ih x hx hl' z hz
theorem rngR_inN {l:List (Int × Int)} (h:∀ z∈l,InN z):∀ z∈rngR l,InN z:=by
 unfold rngR
 have hm:∀ z∈srtR [] l,InN z:=fun z hz=>by
  rcases srtR_mem.1 hz with h1|h1
  ·cases h1
  ·exact h z h1
 generalize srtR [] l=s at hm
 cases s with
 | nil=>exact fun z hz=>(by cases hz)
 | cons x s=>exact mgR_inN s x (hm x (by simp)) fun z hz=>hm z (.tail _ hz)
theorem rsc_ok {a n:List (Int × Int)} (ha:∀ z∈a,InF z) (hn:∀ z∈n,InN z) (h1:(rngR a).length≤256) (h2:(rngR n).length≤256):RscOk ⟨rngR a,rngR n⟩ :=
 ⟨(rngR_asc ha).1,(rngR_asc ha).2,h1,(rngR_asc fun z hz=>(hn z hz).f).1,rngR_inN hn,h2⟩
theorem rsc_nil:RscOk ⟨[],[]⟩:=⟨trivial,fun x h=>(by cases h),Nat.zero_le _,trivial,fun x h=>(by cases h),Nat.zero_le _⟩
end Go.Proofs.YtbfnfgpjgdbmeaaGreatDoor
