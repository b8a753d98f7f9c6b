/-
  Own slices whose capacity is known: asked for it, cut up to it, grown beyond it; a part of a block copied within it; blocks apart. A call of a function that was made over frozen values. A table copied; the entries that a condition keeps; what objects permit. What is frozen does not overlap what is owned. The length of an own slice of known capacity; its capacity forgotten. An entry is put into a table's memory at a place. What is known of calls: by lists of calls that were carried out before; a call whose memory is given up. What only reads memory may be handed memory that is owned, and it stays owned. A table with an entry put in. Tables that are nil. What objects permit.
-/
import Derived.Test.YtndbhhgmpjjjhaaGreatDoorE19
import Derived.Test.YtndbhhgmpjjjhaaGreatDoorMab
import Derived.Lib.Overlaps
import Derived.Test.YtndbhhgmpjjjhaaGreatDoorE4
import Derived.Test.YtndbhhgmpjjjhaaGreatDoorE1
import Derived.Lib.Hide
namespace Go.Proofs.YtndbhhgmpjjjhaaGreatDoor
open Go.RowKit Go.Lib
theorem Rep.oslc_inv {X:Nat→Prop} {w:World} {φ:Em} {v:Value} {r off len sz cap:Nat} (h:Rep X w φ v (.oslc r off len sz cap)):∃ A,v=.slice A len cap∧len≤cap∧((len=0∧cap=0)∨∃ b o,φ r=some (b,o)∧A=some ⟨b,o + off,none⟩∧o + off + cap * sz < bsz w b):=by
 cases h with
 | oslc _ _ _ _ _ b o hp hc hs=>exact ⟨_,rfl,hc,.inr ⟨b,o,hp,rfl,hs⟩⟩
 | oslc0 A=>exact ⟨A,rfl,Nat.le_refl _,.inl ⟨rfl,rfl⟩⟩
theorem AFn.caps {P:Program} {g:FuncId} {k r off len sz:Nat} {args:List AV} {H H':Hp} {v:AV} (h:∀ cap,len≤cap→AFn P g k (.oslc r off len sz cap::args) H v H'):AFn P g k (.osl r off len sz::args) H v H':=by
 intro X φ w vals hs hR hst hφ
 have hs':vals.size=args.length + 1:=by simpa using hs
 have h0:=hR 0 vals[0] (.osl r off len sz) (by simp) rfl
 have go:∀ cap,len≤cap→Rep X w φ vals[0] (.oslc r off len sz cap)→Calls P g vals w fun e w'=>∃ x X' φ',e=.returned x∧Nxt H (fun r=>k≤r) X φ w H' X' φ' w'∧St X' φ' H' w'∧Rep X' w' φ' x v:=fun cap hc hr=>by
  refine h cap hc X φ w vals (by simpa using hs') (fun i x a hx ha=>?_) hst hφ
  cases i with
  | zero =>
   simp at ha
   subst ha
   have:x=vals[0]:=by
    rw [Array.getElem?_eq_getElem (by omega)] at hx
    injection hx with hx;exact hx.symm
   rw [this];exact hr
  | succ i=>exact hR (i + 1) x a hx (by simpa using ha)
 generalize vals[0]=v0 at h0 go
 obtain ⟨A,cap,rfl,hc,⟨h1,h2⟩|⟨b,o,hp,rfl,hsz⟩⟩:=h0.osl_inv
 ·subst h1 h2
  exact go 0 (Nat.le_refl _) (.oslc0 _ _ _ _)
 ·exact go cap hc (.oslc _ _ _ _ _ b o hp hc hsz)
section
variable {P:Program} {o:Oper} {E:Operand→Option AV} {H:Hp} {f:Nat} {t tn:TypeId} {size bytes sn bn:Nat} {zero zn:List AV} {x y:Operand} {e sz by':Nat} {l':Lay} {z':List AV}
theorem LO.capC {r off len cap:Nat} (ho:o.op=.call { callee:=.builtin .cap,args:=#[x],argTypes:=#[t] }) (hx:E x=some (.oslc r off len sz cap)) (ht:TyOK P t (.sl e) size bytes zero):LO P o E H f [] [] (.base (.int .i64 (cap:Int))) H :=
 .pure fun X φ w ρ hR=>by
  obtain ⟨A,e1,_⟩:=(hR x (by simp [ho,Op.operands,Call.operands]) _ hx).oslc_inv
  exact ⟨_,by simp [execOp,ho,resolve,invoke,Go.builtin,Builtin.cap_,e1,run_underlying (lay_sl ht),goInt];try rfl,.base _⟩
theorem run_sliceC {w:World} {ρ:Operand→Value} {lo hi:Option Operand} {A:Option Addr} {len cap m n:Nat} (ht:TyOK P t (.sl e) size bytes zero) (he:TyOK P e l' sz by' z')
 (hl:(lo=none∧m=0)∨∃ y k,lo=some y∧ρ y=.int k (m:Int)) (hh:(hi=none∧n=len)∨∃ y k,hi=some y∧ρ y=.int k (n:Int)) (hmn:m≤n) (hn:n≤cap) (hc:len≤cap) :
 (Instr.sliceAt t (.slice A len cap) (lo.map ρ) (hi.map ρ) (none:Option Value)).run P w=.ok (.slice (if cap=m then A else A.map (·.add (m * sz))) (n - m) (cap - m)) w:=by
 have h1:(0:Int)≤(n:Int)∧(n:Int)≤(cap:Int):=by omega
 have h2:(0:Int)≤(m:Int)∧(m:Int)≤(n:Int):=by omega
 have hb:(Instr.sliceBounds true len cap (lo.map ρ) (hi.map ρ) none).run P w=.ok (m,n,cap) w:=by
  rcases hl with ⟨rfl,rfl⟩|⟨y,k,rfl,ey⟩<;>rcases hh with ⟨rfl,rfl⟩|⟨y',k',rfl,ey'⟩
  ·simp [Instr.sliceBounds]
  ·simp [Instr.sliceBounds,Instr.sliceBound,asIntOf,ey',show n≤cap by omega]
  ·simp [Instr.sliceBounds,Instr.sliceBound,asIntOf,ey,hmn]
  ·simp [Instr.sliceBounds,Instr.sliceBound,asIntOf,ey,ey',hmn,show n≤cap by omega]
 simp only [Instr.sliceAt,Instr.slice,Sem.run_bind,run_underlying (lay_sl ht),Result.andThen_ok,hb,he.sizeOf,Sem.run_pure]
theorem LO.sliceC {lo hi:Option Operand} {r off len cap m n:Nat} (ho:o.op=.slice t x lo hi none) (hx:E x=some (.oslc r off len sz cap)) (hl:Bnd E lo 0 m) (hh:Bnd E hi len n) (hmn:m≤n) (hn:n≤cap) (ht:TyOK P t (.sl e) size bytes zero) (he:TyOK P e l' sz by' z') :
 LO P o E H f [] [] (.oslc r (off + m * sz) (n - m) sz (cap - m)) H :=
 .pure fun X φ w ρ hR=>by
  obtain ⟨A,e1,hc,hcase⟩:=(hR x (by simp [ho,Op.operands]) _ hx).oslc_inv
  have hl':=bnd_val (ρ:=ρ) hl fun y hy a ha=>hR y (by simp [ho,Op.operands,hy]) a ha
  have hh':=bnd_val (ρ:=ρ) hh fun y hy a ha=>hR y (by simp [ho,Op.operands,hy]) a ha
  refine ⟨_,by simp only [execOp,ho,e1,Sem.run_bind,Option.map_none,run_sliceC (A:=A) (w:=w) ht he hl' hh' hmn hn hc,Result.andThen_ok,Sem.run_pure];try rfl,?_⟩
  rcases hcase with ⟨h1,h2⟩|⟨b,o',hp,rfl,hs⟩
  ·have e3:n - m=0:=by omega
   have e4:cap - m=0:=by omega
   rw [e3,e4]
   exact .oslc0 _ _ _ _
  ·by_cases hcm:cap=m
   ·have e3:n - m=0:=by omega
    have e4:cap - m=0:=by omega
    rw [e3,e4]
    exact .oslc0 _ _ _ _
   ·rw [if_neg hcm]
    simp only [Option.map_some,Addr.add_lit]
    rw [Nat.add_assoc]
    refine .oslc r _ _ sz _ b o' hp (by omega) ?_
    have:m * sz + (cap - m) * sz=cap * sz:=by rw [← Nat.add_mul];congr 1;omega
    omega
theorem LO.append_zerosC {r off len n cap:Nat} {k kn:IntKind} {cs olds:List AV} (ho:o.op=.call { callee:=.builtin .append,args:=#[x,y],argTypes:=#[t,tn] }) (hx:E x=some (.oslc r off len sz cap)) (hy:E y=some (.base (.int k (n:Int)))) (hH:H r=some cs) (hv:Tk cs off (len * sz) olds)
 (ht:TyOK P t (.sl e) size bytes zero) (htn:TyOK P tn (.int kn) sn bn zn) (he:TyOK P e l' sz by' z') (h0:0 < sz) (hc0:0 < cap) (hn0:0 < n) (hg:cap < len + n) (hm:(len + n) * by'≤140737488355328) (hm2:len + n≤9223372036854775807) (_hrf:r≠f) :
 LO P o E H f [r] [f] (.osl f 0 (len + n) sz) (up H f (some (olds++zerosL n z'))):=by
 refine ⟨fun r' hr'=>by simp at hr';rw [up_ne hr'],fun E' K hE hK X φ w ρ hR hst hf=>?_⟩
 rw [ovr_one]
 have hKr:=(hK r (.inl (by simp))).trans hH
 obtain ⟨A,e1,hc,hcase⟩:=(hR x _ ((hE x (by simp [ho,Op.operands,Call.operands])).trans hx)).oslc_inv
 have e2:=(hR y _ ((hE y (by simp [ho,Op.operands,Call.operands])).trans hy)).base_eq
 obtain ⟨z,hz0,hzs,hzm,hzl,hz1⟩:=he.zeroV
 obtain ⟨i,zz,hi,hsz,hby,hz,_⟩:=info_of he
 obtain ⟨inf,hi1,hi2⟩:=he.info w
 have hzz:zz=z:=by
  have h:=hz0 w
  simp [zeroValue,typeInfo,hi,hz] at h
  exact h
 subst hzz
 subst hsz
 have hgz:=good_zeros (X:=X) (w:=w) (φ:=φ) n hzm hz1 (by omega)
 rw [hzl] at hgz
 obtain ⟨news,hnews⟩:∃ news:List Value,(Builtin.zeroCells zz.cells n).toList=news:=⟨_,rfl⟩
 have hnl:news.length=n * i.size:=by rw [← hnews,Array.length_toList,size_zeroCells,hzs]
 have hns:∀ (j:Nat) c,(zerosL n z')[j]?=some c→c.one=true∧∃ u,news[j]?=some u∧Rep X w φ u c:=fun j c hj=>by
  obtain ⟨g1,u,g2,g3⟩:=hgz.2 j c hj
  refine ⟨g1,u,?_,g3⟩
  have h9:(Builtin.zeroCells zz.cells n)[j]?=some u:=by
   unfold Builtin.zeroCells
   rw [hzs]
   rw [hzs] at g2
   exact g2
  rw [← hnews,Array.getElem?_toList]
  exact h9
 obtain ⟨h1,h2⟩|⟨b,o',hp,hA,hbz⟩:=hcase
 ·omega
 subst hA
 obtain ⟨c,el,hX,hh,hcs⟩:=hst.cells hKr hp (by omega)
 have holdsAt:∀ (j:Nat) d,olds[j]?=some d→d.one=true∧∃ u,w.cell? ⟨b,o' + off + j,none⟩=some u∧Rep X w φ u d:=fun j d hj=>by
  obtain ⟨g1,u,g2,g3⟩:=hcs _ d (hv.2 j d hj)
  exact ⟨g1,u,by rw [cell_of hh,Nat.add_assoc];exact g2,g3⟩
 obtain ⟨oldV,hoV⟩:∃ oldV:List Value,((List.range olds.length).map fun j=>(w.cell? ⟨b,o' + off + j,none⟩).getD undef)=oldV:=⟨_,rfl⟩
 have hoL:oldV.length=olds.length:=by rw [← hoV];simp
 have hos:∀ (j:Nat) d,olds[j]?=some d→d.one=true∧∃ u,oldV[j]?=some u∧Rep X w φ u d:=fun j d hj=>by
  obtain ⟨g1,u,g2,g3⟩:=holdsAt j d hj
  have hlt:j < olds.length:=(List.getElem?_eq_some_iff.1 hj).1
  exact ⟨g1,u,by rw [← hoV];simp [hlt,g2],g3⟩
 have hfc:(Builtin.firstCells i.size len (.slice (some ⟨b,o' + off,none⟩) len cap)).run P w.drew=.ok oldV.toArray w.drew:=by
  refine run_firstCells_some (P:=P) w.drew i.size len _ len cap _ (by rw [hoL,hv.1]) fun j u hu=>?_
  rw [Addr.add_lit]
  have hlt:j < olds.length:=by rw [← hoL];exact (List.getElem?_eq_some_iff.1 hu).1
  obtain ⟨_,u',g2,_⟩:=holdsAt j olds[j] (List.getElem?_eq_getElem hlt)
  rw [← hoV] at hu
  simp [hlt,g2] at hu
  show w.cell? _=_
  rw [g2,hu]
 have hrun:=run_append_grow_zeros (P:=P) w t tn o.type e i zz k kn (lay_sl ht) (lay_int htn) hi hz (some ⟨b,o' + off,none⟩) len cap oldV hfc n hn0 h0 (by omega) (by omega) (by
  have:n * i.bytes≤(len + n) * by':=by rw [hby];exact Nat.mul_le_mul_right _ (by omega)
  omega) (growslice_fits (by omega) (by rw [hby];exact hm))
 unfold OpW
 simp only [execOp,ho,resolve,invoke,Go.builtin,Sem.run_bind,Sem.run_pure,Result.andThen_ok,List.map_toArray,List.map_cons,List.map_nil,e1,e2,hrun]
 have hnA:Builtin.zeroCells zz.cells n=news.toArray:=by rw [← hnews]
 rw [hnA]
 have happ:oldV.toArray++news.toArray=(oldV++news).toArray:=by simp
 rw [happ]
 obtain ⟨h1,h2,h3,h4,h5⟩:=hst.fresh (w':=w.drew.alloc (.cells ((oldV++news).toArray++Builtin.zeroCells zz.cells (grownCap w (len + n) cap e - (len + n))) e)) (cs:=olds++zerosL n z') hf rfl rfl rfl rfl (fun j c hj=>by
  have hsz2:(oldV++news).toArray.size=oldV.length + news.length:=by simp
  rw [List.getElem?_append] at hj
  split at hj
  ·rename_i hlt
   obtain ⟨g1,u,g2,g3⟩:=hos j c hj
   exact ⟨g1,u,by rw [Array.getElem?_append,if_pos (by omega)];simp only [List.getElem?_toArray];rw [List.getElem?_append,if_pos (by omega)];exact g2,g3⟩
  ·rename_i hge
   obtain ⟨g1,u,g2,g3⟩:=hns _ c hj
   have hlt:j - olds.length < news.length:=(List.getElem?_eq_some_iff.1 g2).1
   exact ⟨g1,u,by rw [Array.getElem?_append,if_pos (by omega)];simp only [List.getElem?_toArray];rw [List.getElem?_append,if_neg (by omega),hoL];exact g2,g3⟩)
 exact ⟨_,_,h1,h2,new_row_rep (φ':=fun r=>if r=f then some (w.heap.size,0) else φ r) (X':=fun b=>X b∨b=w.heap.size) (sz:=i.size) h5 h4 (by simp [hnl,hoL,hv.1,Nat.add_mul]) hzs (grownCap_ge w (len + n) cap e)⟩
theorem LO.copyQ {r off r' off' q m:Nat} {cs cs' cs2 ns:List AV} {tx ex sx bx:Nat} {zx:List AV} (ho:o.op=.call { callee:=.builtin .copy,args:=#[x,y],argTypes:=#[t,tx] }) (hx:E x=some (.osl r off q sz)) (hy:E y=some (.osl r' off' m sz)) (hH:H r=some cs) (hH':H r'=some cs')
 (hv:Tk cs' off' (q * sz) ns) (hs:Cp cs off ns cs2) (ht:TyOK P t (.sl e) size bytes zero) (_htx:TyOK P tx (.sl ex) sx bx zx) (he:TyOK P e l' sz by' z') (h0:0 < sz) (hq0:0 < q) (hm:q≤m) :
 LO P o E H f [r'] [r] (.base (.int .i64 (q:Int))) (up H r (some cs2)):=by
 refine ⟨fun r' hr=>up_ne (by simpa using hr),fun E' K hE hK X φ w ρ hR hst hf=>?_⟩
 rw [ovr_one]
 have hKr:=(hK r (.inr (by simp))).trans hH
 have hKr':=(hK r' (.inl (by simp))).trans hH'
 obtain ⟨A,cap,e1,hc,hcase⟩:=(hR x _ ((hE x (by simp [ho,Op.operands,Call.operands])).trans hx)).osl_inv
 obtain ⟨A',cap',e2,hc',hcase'⟩:=(hR y _ ((hE y (by simp [ho,Op.operands,Call.operands])).trans hy)).osl_inv
 obtain ⟨i,z,hi,hsz,hby,hz,hzs⟩:=info_of he
 subst hsz
 obtain ⟨h1,_⟩|⟨b',o2,hp',rfl,hbs'⟩:=hcase'
 ·omega
 obtain ⟨c2,el2,hX2,hh2,hcs2⟩:=hst.cells hKr' hp' (by omega)
 have holdsAt:∀ (j:Nat) d,ns[j]?=some d→d.one=true∧∃ u,w.cell? ⟨b',o2 + off' + j,none⟩=some u∧Rep X w φ u d:=fun j d hj=>by
  obtain ⟨g1,u,g2,g3⟩:=hcs2 _ d (hv.2 j d hj)
  exact ⟨g1,u,by rw [cell_of hh2,Nat.add_assoc];exact g2,g3⟩
 obtain ⟨news,hnV⟩:∃ news:List Value,((List.range ns.length).map fun j=>(w.cell? ⟨b',o2 + off' + j,none⟩).getD undef)=news:=⟨_,rfl⟩
 have hnl:news.length=ns.length:=by rw [← hnV];simp
 have hns:∀ (j:Nat) d,ns[j]?=some d→d.one=true∧∃ u,news[j]?=some u∧Rep X w φ u d:=fun j d hj=>by
  obtain ⟨g1,u,g2,g3⟩:=holdsAt j d hj
  have hlt:j < ns.length:=(List.getElem?_eq_some_iff.1 hj).1
  exact ⟨g1,u,by rw [← hnV];simp [hlt,g2],g3⟩
 have hn1:∀ u∈news,u.oneCell'=true:=fun u hu=>by
  obtain ⟨j,hj⟩:=List.getElem?_of_mem hu
  have hlt:j < ns.length:=by rw [← hnl];exact (List.getElem?_eq_some_iff.1 hj).1
  obtain ⟨g1,u',g2,g3⟩:=hns j _ (List.getElem?_eq_getElem hlt)
  rw [hj] at g2;injection g2 with g2;subst g2
  exact g3.oneCell g1
 have hfc:(Builtin.firstCells i.size q (.slice (some ⟨b',o2 + off',none⟩) m cap')).run P w=.ok news.toArray w:=by
  refine run_firstCells_some (P:=P) w i.size q _ m cap' _ (by rw [hnl,hv.1]) fun j u hu=>?_
  rw [Addr.add_lit]
  have hlt:j < ns.length:=by rw [← hnl];exact (List.getElem?_eq_some_iff.1 hu).1
  obtain ⟨_,u',g2,_⟩:=holdsAt j ns[j] (List.getElem?_eq_getElem hlt)
  rw [← hnV] at hu
  simp [hlt,g2] at hu
  rw [g2,hu]
 obtain ⟨h1,_⟩|⟨b,o',hp,rfl,hbs⟩:=hcase
 ·omega
 obtain ⟨c,el,hX,hh,hcs⟩:=hst.cells hKr hp (by omega)
 have hnews:news.length=q * i.size:=by rw [hnl,hv.1]
 have hfit:o' + off + news.length≤c.size:=by
  rw [bsz_of hh] at hbs
  have:q * i.size≤cap * i.size:=Nat.mul_le_mul_right _ (by omega)
  omega
 have hrun:=run_storeCells_at P b (o' + off) el news 0 c w hh (by simpa using hfit) hn1
 simp only [Nat.add_zero] at hrun
 have hget:=splice_get c.toList news (o' + off)
 generalize hc':(c.toList.take (o' + off)++news++c.toList.drop (o' + off + news.length)).toArray=c' at hrun
 have hc'g:∀ i,c'[i]?=if i < o' + off then c[i]? else if i < o' + off + news.length then news[i - (o' + off)]? else c[i]?:=by
  intro i
  rw [← hc']
  have:=hget i (by simpa using hfit)
  simpa using this
 have hc's:c'.size=c.size:=by rw [← hc'];simp;omega
 obtain ⟨n1,n2,n3⟩:=hst.put (f:=f) (w':=w.setRow b c') (c':=c') (cs':=cs2) hKr hp hh rfl rfl rfl (by simp) (fun b' hb'=>setRow_other w b b' c' hb') (setRow_heap w b c c' el (0,0) hh) hc's (fun j d hj=>by
  rw [hc'g]
  rcases hs j d hj with ⟨h3,h4⟩|⟨h3,h4⟩
  ·have hlt:j - off < ns.length:=(List.getElem?_eq_some_iff.1 h4).1
   obtain ⟨h5,u,h6,h7⟩:=hns _ d h4
   refine ⟨h5,u,?_,h7⟩
   rw [if_neg (by omega),if_pos (by omega),show o' + j - (o' + off)=j - off from by omega]
   exact h6
  ·obtain ⟨h5,u,h6,h7⟩:=hcs j d h4
   refine ⟨h5,u,?_,h7⟩
   rcases h3 with h3|h3
   ·rw [if_pos (by omega)];exact h6
   ·rw [if_neg (by omega),if_neg (by omega)];exact h6)
 unfold OpW
 have hmin:Nat.min m q=q:=Nat.min_eq_right hm
 have hcr:(Builtin.copy_ #[t,tx] o.type #[.slice (some ⟨b,o' + off,none⟩) q cap,.slice (some ⟨b',o2 + off',none⟩) m cap']).run P w=.ok (goInt q) (w.setRow b c'):=by
  simp only [Builtin.copy_,Sem.run_bind,Sem.run_pure,Result.andThen_ok,List.getElem?_toArray,List.getElem?_cons_zero,List.getElem?_cons_succ,run_underlying (lay_sl ht),Builtin.lenOf,hmin,he.sizeOf,hfc,hrun]
 simp only [execOp,ho,resolve,invoke,Go.builtin,Sem.run_bind,Sem.run_pure,Result.andThen_ok,List.map_toArray,List.map_cons,List.map_nil,e1,e2,hcr]
 exact ⟨X,φ,n1,n2,.base _⟩
theorem run_overlaps_none (w:World) (tS tR:TypeId) (ht:P.underlying tS=some (.slice e)) (hz:∀ w,(Go.sizeOf e).run P w=.ok sz w) (A B:Option Addr) (la ca lb cb:Nat) (h:la=0∨lb=0) :
 (Extern.SlicesOverlaps.overlaps #[tS,tS] #[tR] #[.slice A la ca,.slice B lb cb]).run P w=.ok (.bool false) w:=by
 change Sem.run P (α:=Value) (do
  let some t := (#[tS, tS] : Array TypeId)[0]? | stuck "slices.overlaps: no parameter types"
  let .slice elem ← underlying t | stuck "slices.overlaps: slice type expected"
  let size ← sizeOf elem
  match A,B with
  | some a,some b =>
   if la=0∨lb=0∨size=0 then pure (Value.bool false)
   else if a.block != b.block && (← frozen a) && (← frozen b) then unsupported .addressObserved
   else do
    if a.block != b.block then do
     noView a;noView b
     if ← mayBeOne a b then return Value.bool ((← choose (.extern "sameAddr.stringBytes" 2)) == 1)
    pure (Value.bool (a.block == b.block && a.off < b.off + lb * size && b.off < a.off + la * size))
  | _,_=>pure (Value.bool false)) w=_
 have h0:la=0∨lb=0∨sz=0:=h.imp id .inl
 cases A<;>cases B<;>simp [run_underlying ht,hz,h0]
end
theorem W.alias {P:Program} {k n m:Nat} {c:Code} {T:Tp} {H:Hp} {K:Exit→Nat→Tp→Hp→Prop} (f m':Nat) {t r off len sz:Nat} {cs:List AV} (ht:T t=some (.osl r off len sz)) (hr:H r=some cs) (hrf:r≠f) (hm:m≤f) (hm':f < m')
 (h:W P k n c m' (up T t (some (.osl f off len sz))) (up (up H r none) f (some cs)) K):W P k n c m T H K:=by
 obtain ⟨e,m2,T2,H2,h1,h2⟩:=h
 refine ⟨e,m2,T2,H2,h1,fun B hB a w hsim=>h2 B hB a w ?_⟩
 obtain ⟨h0,X,φ,g1,g2,g3,g4,g5,g6⟩:=hsim
 have hff:φ f=none:=g6 f hm
 let φ':Em:=fun x=>if x=f then φ r else φ x
 have hφf:φ' f=φ r:=if_pos rfl
 have hφn:∀ x,x≠f→φ' x=φ x:=fun x hx=>if_neg hx
 have hφ:∀ x y,φ x=some y→φ' x=some y:=fun x y hx=>by
  rw [hφn x (fun e=>by rw [e,hff] at hx;cases hx)];exact hx
 have hkeep:∀ v a,Rep X w φ v a→Rep X w φ' v a:=fun v a hv=>hv.keep (Nat.le_refl _) (fun _ _ _=>rfl) (fun _ _=>rfl) (fun _ _ h=>h) hφ
 have hold:∀ x cs1,up (up H r none) f (some cs) x=some cs1→x≠f→x≠r∧H x=some cs1:=fun x cs1 hx hxf=>by
  rw [up_ne hxf] at hx
  by_cases hxr:x=r
  ·subst hxr;rw [up_at] at hx;cases hx
  ·rw [up_ne hxr] at hx;exact ⟨hxr,hx⟩
 have hN:Nxt H (·=f) X φ w (up (up H r none) f (some cs)) X φ' w:=by
  refine ⟨rfl,rfl,rfl,Nat.le_refl _,fun _ _ _=>rfl,fun _ _=>rfl,fun _ _ h=>h,fun _ _ h=>.inl h,fun x hx=>hφn x hx,fun x cs1 b o i1 i2=>?_⟩
  by_cases hxf:x=f
  ·subst hxf;rw [hφf] at i2;exact .inr ⟨r,cs,o,hr,i2⟩
  ·rw [hφn x hxf] at i2;exact .inr ⟨x,cs1,o,(hold x cs1 i1 hxf).2,i2⟩
 have hS:St X φ' (up (up H r none) f (some cs)) w:=by
  refine ⟨fun x cs1 i1=>?_,fun x y c1 c2 b o1 o2 i1 i2 i3 i4=>?_,g4.gl⟩
  ·by_cases hxf:x=f
   ·subst hxf
    rw [up_at] at i1
    injection i1 with i1
    subst i1
    rw [hφf]
    obtain j1|⟨b,o,j1,j2,j3⟩:=g4.1 r cs hr
    ·exact .inl j1
    ·exact .inr ⟨b,o,j1,j2,j3.keep rfl hkeep⟩
   ·rw [hφn x hxf]
    obtain j1|⟨b,o,j1,j2,j3⟩:=g4.1 x cs1 (hold x cs1 i1 hxf).2
    ·exact .inl j1
    ·exact .inr ⟨b,o,j1,j2,j3.keep rfl hkeep⟩
  ·by_cases hxf:x=f<;>by_cases hyf:y=f
   ·rw [hxf,hyf]
   ·subst hxf
    rw [hφf] at i3
    rw [hφn y hyf] at i4
    obtain ⟨q1,q2⟩:=hold y c2 i2 hyf
    exact absurd (g4.2 y r c2 cs b o2 o1 q2 hr i4 i3) q1
   ·subst hyf
    rw [hφf] at i4
    rw [hφn x hxf] at i3
    obtain ⟨q1,q2⟩:=hold x c1 i1 hxf
    exact absurd (g4.2 x r c1 cs b o1 o2 q2 hr i3 i4) q1
   ·rw [hφn x hxf] at i3
    rw [hφn y hyf] at i4
    exact g4.2 x y c1 c2 b o1 o2 (hold x c1 i1 hxf).2 (hold y c2 i2 hyf).2 i3 i4
 refine ⟨by omega,X,φ',g1.trans hN (fun x hx=>by rw [hx];omega),g2,g3,hS,all_up (p:=fun t v=>Rep X w φ' (a.tmps.getD t undef) v) ?_ (fun t v hv=>hkeep _ _ (g5 t v hv)),fun x hx=>by rw [hφn x (by omega)];exact g6 x (by omega)⟩
 have h3:=g5 t _ ht
 generalize a.tmps.getD t undef=u at h3
 obtain ⟨A,cap,rfl,hc,⟨q1,q2⟩|⟨b,o,q1,rfl,q2⟩⟩:=h3.osl_inv
 ·subst q1 q2
  exact .osl0 _ _ _ _
 ·exact .osl f off len sz b o cap (by rw [hφf];exact q1) hc q2
end Go.Proofs.YtndbhhgmpjjjhaaGreatDoor
namespace Go.Proofs.YtndbhhgmpjjjhaaGreatDoor
open Go.RowKit
section
variable {P:Program} {o:Oper} {E:Operand→Option AV} {H:Hp} {f:Nat} {g:FuncId} {xs:Array Operand} {ts:Array TypeId} {args cl:List AV} {fr:List Nat} {v:AV} {z:Operand}
theorem LO.callC (ho:o.op=.call { callee:=.value z,args:=xs,argTypes:=ts }) (hE:E z=some (.clo g cl)) (hp:cl.all (fun c=>c.pure1)=true) (h:AFn P g 0 (args++cl) mt v mt) (hF:FnOK P g)
 (hargs:Args E H fr none xs.toList args) (hv:v.pure=true):LO P o E H f [] fr v (frK H fr):=by
 refine ⟨fun r hr=>if_neg hr,fun E' K hE' hK X φ w ρ hR hst hff=>?_⟩
 have hKf:∀ r,r∈fr→K r=H r:=fun r hr=>hK r (.inr hr)
 rw [ovr_frK hKf]
 obtain ⟨fn,hf,hname,hb⟩:=hF
 have hops:o.op.operands=#[z]++xs:=by rw [ho];rfl
 obtain ⟨vs,hρ,hvl,hvs⟩:=(Clo.clo cl hp).rep (hR z _ ((hE' _ (by rw [hops];simp)).trans hE))
 unfold OpW
 rw [run_callClo ho hρ hf hname hb]
 obtain ⟨g1,g2⟩:=hargs.rep (K:=K) (X:=X) (φ:=φ) (φ':=mt) (w:=w) (ρ:=ρ) hKf hst (fun x hx a ha=>hR x a ((hE' x (by rw [hops];simp;exact .inr (by simpa using hx))).trans ha)) (fun q h=>by cases h)
 have g1':(xs.map ρ).size=args.length:=by simpa using g1
 refine (h (frX X K φ fr) mt w (xs.map ρ++vs) (by simp [hvl];simpa using g1) (fun i x a hx ha=>?_) ⟨fun r cs h=>(by cases h),fun r r' cs cs' b o o' h=>(by cases h),hst.frz.gl⟩ (fun _ _=>rfl)).mono ?_
 ·rw [Array.getElem?_append] at hx
  rw [List.getElem?_append] at ha
  by_cases hi:i < args.length
  ·rw [if_pos (by omega)] at hx
   rw [if_pos hi] at ha
   exact g2 i x a (by simpa using hx) ha
  ·rw [if_neg (by omega),g1'] at hx
   rw [if_neg hi] at ha
   exact ((hvs _ x a hx ha).keep (X':=frX X K φ fr) (φ':=φ) (Nat.le_refl _) (fun _ _ _=>rfl) (fun _ _=>rfl) (fun b _ hx=>hx.1) (fun _ _ h=>h)).pure1 (List.all_eq_true.1 hp a (List.mem_of_getElem? ha))
 rintro e w' ⟨x,X',φ',rfl,h1,h2,h3⟩
 have hst1:=hst.frz (fr:=fr)
 obtain ⟨k1,k2,_⟩:=nxt_pure hst1 h1 (fun _ _ _ _ _ _ _ _ _ h=>by cases h) (fun _ _ _ _ h=>by cases h)
 refine ⟨x,rfl,X',φ,?_,k2,h3.pure hv⟩
 have hn2:Nxt (frK K fr) (·=f) (frX X K φ fr) φ w (frK K fr) X' φ w' :=
  ⟨h1.os,h1.tape,h1.output,h1.size,fun b hb hn=>h1.same b hb (fun _ _ _ h=>by cases h),h1.bs,h1.xs,fun b hb hx=>(h1.xk b hb hx).imp id fun ⟨_,_,_,h,_⟩=>(by cases h),fun _ _=>rfl,fun r cs b o h1 h2=>.inr ⟨r,cs,o,h1,h2⟩⟩
 exact Nxt.frz.trans hn2 fun _ h=>h
end
end Go.Proofs.YtndbhhgmpjjjhaaGreatDoor
namespace Go.Proofs.YtndbhhgmpjjjhaaGreatDoor
open Go.RowKit
theorem entsC_len (l:List Ent):(entsC l).length=l.length * 5:=by
 induction l with
 | nil=>rfl
 | cons x l ih=>rw [show entsC (x::l)=entC x++entsC l from rfl,List.length_append,ih,List.length_cons,show (entC x).length=5 from rfl];omega
theorem entsC_pure (l:List Ent):(entsC l).all AV.pure1=true:=by
 induction l with
 | nil=>rfl
 | cons x l ih=>rw [show entsC (x::l)=entC x++entsC l from rfl,List.all_append,ih];rfl
theorem entsC_app (a b:List Ent):entsC (a++b)=entsC a++entsC b:=by simp [entsC]
theorem ents_all {l:List Ent} {n:Nat} (h:l.length=n):Tk (entsC l) 0 (n * 5) (entsC l):=by
 have:=Tk.all (entsC l)
 rwa [entsC_len,h] at this
theorem tclone_any (t:List Ent) (h:0 < t.length) (hl:t.length≤1000):AFn Tryz.prog 24 0 [.isl (entsC t) t.length] mt (.osl 0 0 t.length 5) (up mt 0 (some (entsC t))):=by
 refine AFn.eq Tryz.func24 rfl rfl (Nat.le_of_ble_eq_true rfl) ?_
 have hz:=entsC_len t
 refine Wq<|qW 0 1 rfl<|qA rfl<|Nl<|Wq<|Wq<|qW 5 7 rfl<|qM rfl<|Od rfl rfl (LO.eqNilI rfl rfl rfl h rfl ty31)<|Nl<|Wo rfl rfl<|Wu<|Wq<|qW 16 20 rfl<|Od rfl rfl (LO.buildSlice rfl ty31 ty51 (by decide) (by decide) .nil)<|qM rfl<|Od rfl rfl (Lap rfl rfl (Ssi rfl rfl hz) rfl (Tl rfl) ty31 ty31 ty51 (by decide) (by omega) (by omega) (by decide))<|qA rfl<|Nl ?_
 rw [List.nil_append,show 0 + t.length=t.length from Nat.zero_add _]
 refine W.rename [(0,18)] 1 (T':=up mt 2 (some (.osl 0 0 t.length 5))) (H':=up mt 0 (some (entsC t))) (by decide) ?_ ?_ ?_
 ·exact aU (lI rfl) aM
 ·exact aU (kP rfl (entsC_pure _)) aM
 refine Wz ⟨.inl rfl,_,(up mt 0 (some (entsC t))),(Rc (Rt0 rfl) Rv),(aU rfl aM),?_⟩
 exact ⟨rfl,rfl⟩
theorem covc_any (q p:Pre) (h:PreOk q):AFn Tryz.prog 31 0 [.agg (preC q),.imm (preC p) 0] mt (.base (.bool (cvP q p))) mt:=by
 refine AFn.eq Tryz.func31 rfl rfl (Nat.le_of_ble_eq_true rfl) ?_
 have h1:=covers_any q p h
 refine Wq<|qW 0 2 rfl<|qC rfl<|qA rfl<|Nl<|Wq<|qW 6 10 rfl<|qG rfl ty36 rfl (Tl rfl)<|Od rfl rfl (Lg rfl rfl ty36 rfl (Tl rfl))<|qY rfl (h1) fok32 rfl<|qA rfl<|Nl<|Wz ⟨.inl rfl,_,mt,(Rc (Rt0 rfl) Rv),aM,?_⟩
 exact ⟨rfl,rfl⟩
def covE (t:List Ent) (p:Pre):List Ent:=t.filter fun e=>cvP e.p p
theorem take_filter {t:List Ent} {k:Nat} {e:Ent} (p:Pre) (h:t[k]?=some e):covE (t.take (k + 1)) p=covE (t.take k) p++(if cvP e.p p=true then [e] else []):=by
 unfold covE
 rw [List.take_add_one,h,List.filter_append]
 cases hc:cvP e.p p<;>simp [hc]
set_option maxHeartbeats 1000000 in
theorem filter_any (t:List Ent) (p:Pre) (h:TabP t):AFn Tryz.prog 30 0 [.isl (entsC t) t.length,.clo 31 [.imm (preC p) 0]] mt (.isl (entsC (covE t p)) (covE t p).length) mt:=by
 refine AFn.eq Tryz.func30 rfl rfl (Nat.le_of_ble_eq_true rfl) ?_
 have hlen:=h.len
 refine Wq<|qW 0 1 rfl<|qA rfl<|Nl<|Wq<|qW 5 6 rfl<|qA rfl<|Nl<|Wq<|Wq<|qW 10 13 rfl<|qM rfl<|qH rfl ty31<|qM rfl<|Nl<|W.name 13 (13 + 1) (t:=5) (sz:=5) rfl (by decide) (by decide)<|Wb<|W.loop_keep (α:=Nat × List Ent) (fun x=>t.length - x.1) 1 (fun x=>[(5,.osl 0 0 x.2.length 5),(10,.base (.int .i64 (x.1:Int)))]) (fun x=>up mt 0 (some (entsC x.2))) (fun x=>(x.1≤t.length∧x.2.length≤x.1)∧x.2=covE (t.take x.1) p) (0,(([]:List Ent))) [(0,13)] (.cons (t:=1) rfl (by exact .inl rfl) (.cons (t:=8) rfl (by exact .inl rfl) (.cons (t:=9) rfl (by exact .inl rfl) .nil))) (show (0≤t.length∧(([]:List Ent)).length≤0)∧(([]:List Ent))=covE (t.take 0) p from ⟨⟨Nat.zero_le _,Nat.zero_le _⟩,rfl⟩) (by decide) ?_ ?_ ?_
 ·exact lC (lI rfl) (lC (lR rfl) lN)
 ·exact aU (kR rfl) aM
 rintro ⟨k,l⟩ hIA ihA
 try (dsimp only at hIA)
 try dsimp only [baseT,List.cons_append,List.nil_append]
 obtain ⟨⟨hk,hlk⟩,hl⟩:=hIA
 by_cases hc:k < t.length
 ·have g1:decide ((k:Int) < (t.length:Int))=true:=decide_eq_true (by omega)
  have hkk:(k:Int) + 1=((k + 1:Nat):Int):=by omega
  have htk:=ents_tk hc
  have hok:=h.ok t[k] (List.getElem_mem hc)
  have hts:=take_filter p (List.getElem?_eq_getElem hc)
  obtain ⟨e,he⟩:∃ e,t[k]=e:=⟨_,rfl⟩
  rw [he] at htk hok hts
  rw [← hl] at hts
  have h1:=covc_any e.p p hok
  refine Wq<|qW 17 18 rfl<|qK rfl<|Nl<|Wq<|Wt rfl ‹_›<|Wu<|Wq<|Wb<|Wq<|qW 22 26 rfl<|qJ rfl rfl ty31 ty51 (by omega)<|Od rfl rfl (Lg rfl rfl ty51 rfl htk)<|qB rfl ty51<|qS rfl ty51 (Sl rfl) rfl<|Nl ?_
  cases hcv:cvP e.p p with
  | true =>
   rw [hcv] at h1 hts
   have hap:entsC l++[.base (.bool e.p.ad.v6),.base (.int .u64 e.p.ad.hi),.base (.int .u64 e.p.ad.lo),.base (.int .i64 e.p.len),.base (.int .i64 e.v)]=entsC (l++[e]):=by rw [entsC_app];rfl
   have hl1:l.length + 1=(l++[e]).length:=by simp
   refine Wq<|qW 30 34 rfl<|qM rfl<|qF rfl ty51 rfl<|qG rfl ty36 rfl (Tl rfl)<|Od rfl rfl (LO.callC (fr:=[]) (args:=[.agg (preC e.p)]) rfl rfl rfl h1 fok31 (.cons rfl (.pure rfl) .nil) rfl)<|Nl<|Wt rfl rfl<|qW 38 43 rfl<|qM rfl<|qG rfl ty51 rfl (Tl rfl)<|Od rfl rfl (LO.buildSlice rfl ty31 ty51 (by decide) (by decide) (.cons rfl rfl rfl rfl (Sl rfl) .nil))<|Od rfl rfl (Lap rfl rfl (Sso rfl rfl (Tl rfl)) rfl (ents_all rfl) ty31 ty31 ty51 (by decide) (by omega) (by omega) (by decide))<|qA rfl<|Nl ?_
   rw [hap,hl1]
   refine qW 47 49 rfl<|qZ rfl (iW _ (by omega))<|qM rfl<|Nl ?_
   rw [hkk]
   refine WL.renameL [(0,41)] 1 (by decide) ?_ ?_ (ihA ((k + 1),(l++[e])) (show t.length - (k + 1) < t.length - k from by omega) (show ((k + 1)≤t.length∧(l++[e]).length≤(k + 1))∧(l++[e])=covE (t.take (k + 1)) p from ⟨⟨by omega,by rw [← hl1];omega⟩,by rw [hts];simp⟩))
   ·exact lC (lI rfl) (lC (lR rfl) (lC (lR rfl) (lC (lR rfl) (lC (lR rfl) lN))))
   ·exact aU (kP rfl (entsC_pure _)) aM
  | false =>
   rw [hcv] at h1 hts
   have hts2:l=covE (t.take (k + 1)) p:=by rw [hts];simp
   refine Wq<|qW 30 34 rfl<|qM rfl<|qF rfl ty51 rfl<|qG rfl ty36 rfl (Tl rfl)<|Od rfl rfl (LO.callC (fr:=[]) (args:=[.agg (preC e.p)]) rfl rfl rfl h1 fok31 (.cons rfl (.pure rfl) .nil) rfl)<|Nl<|Wo rfl rfl<|Wu<|qW 47 49 rfl<|qZ rfl (iW _ (by omega))<|qM rfl<|Nl ?_
   rw [hkk]
   refine WL.renameL [(0,0)] 1 (by decide) ?_ ?_ (ihA ((k + 1),l) (show t.length - (k + 1) < t.length - k from by omega) (show ((k + 1)≤t.length∧l.length≤(k + 1))∧l=covE (t.take (k + 1)) p from ⟨⟨by omega,by omega⟩,hts2⟩))
   ·exact lC (lI rfl) (lC (lR rfl) (lC (lR rfl) (lC (lR rfl) (lC (lR rfl) lN))))
   ·exact aU (kP rfl (entsC_pure _)) aM
 ·have g1:decide ((k:Int) < (t.length:Int))=false:=decide_eq_false (by omega)
  have hl2:l=covE t p:=by rw [hl,List.take_of_length_le (by omega)]
  clear ihA
  refine Wq<|qW 17 18 rfl<|qK rfl<|Nl<|Wq<|Wo rfl ‹_›<|Wx<|Wq<|qW 53 55 rfl<|qM rfl<|qA rfl<|Nl<|Wy (t:=4) rfl rfl (ents_all rfl) (entsC_pure _)<|Wz ⟨.inl rfl,_,mt,(Rc (Rt0 rfl) Rv),aM,?_⟩
  exact ⟨by rw [← hl2];rfl,rfl⟩
theorem covering_any (t:List Ent) (p:Pre) (h:TabP t):AFn Tryz.prog 13 0 [.isl (entsC t) t.length,.agg (preC p)] mt (.isl (entsC (covE t p)) (covE t p).length) mt:=by
 refine AFn.eq Tryz.func13 rfl rfl (Nat.le_of_ble_eq_true rfl) ?_
 have h1:=filter_any t p h
 refine Wq<|qW 0 2 rfl<|qC rfl<|qA rfl<|Nl<|W.frzo (t:=3) rfl rfl rfl<|Wq<|qW 6 10 rfl<|qM rfl<|Od rfl rfl (LO.makeClo (cs:=[.imm (preC p) 0]) rfl rfl rfl)<|qY rfl (h1) fok30 rfl<|qA rfl<|Nl<|Wz ⟨.inl rfl,_,mt,(Rc (Rt0 rfl) Rv),aM,?_⟩
 exact ⟨rfl,rfl⟩
end Go.Proofs.YtndbhhgmpjjjhaaGreatDoor
namespace Go.Proofs.YtndbhhgmpjjjhaaGreatDoor
open Go.RowKit Go.Lib
section
variable {P:Program} {o:Oper} {E:Operand→Option AV} {H:Hp} {f:Nat} {x y:Operand} {e sz by' size bytes:Nat} {l':Lay} {z' zero:List AV}
theorem run_overlaps_apart2 (w:World) (tS tR e:TypeId) (ht:P.underlying tS=some (.slice e)) (size:Nat) (hz:∀ w,(Go.sizeOf e).run P w=.ok size w)
 (a b:Addr) (la ca lb cb:Nat) (hne:a.block≠b.block) (tA tB:TypeId) (kA kB:Nat)
 (hsa:w.shape? a.block=some (tA,kA)) (hsb:w.shape? b.block=some (tB,kB)) (hkA:kA≠0)
 (hfb:w.frozen? b=false) (hfe:w.frozen? { block:=b.block,off:=kB }=false) :
 (Extern.SlicesOverlaps.overlaps #[tS,tS] #[tR] #[.slice (some a) la ca,.slice (some b) lb cb]).run P w=.ok (.bool false) w:=by
 have hnb:(a.block != b.block)=true:=by simpa using hne
 have hnb':(a.block == b.block)=false:=by simpa using hne
 change Sem.run P (α:=Value) (do
  let some t := (#[tS, tS] : Array TypeId)[0]? | stuck "slices.overlaps: no parameter types"
  let .slice elem ← underlying t | stuck "slices.overlaps: slice type expected"
  let size ← sizeOf elem
  match (some a:Option Addr),(some b:Option Addr) with
  | some a,some b =>
   if la=0∨lb=0∨size=0 then pure (Value.bool false)
   else if a.block != b.block && (← frozen a) && (← frozen b) then unsupported .addressObserved
   else do
    if a.block != b.block then do
     noView a;noView b
     if ← mayBeOne a b then return Value.bool ((← choose (.extern "sameAddr.stringBytes" 2)) == 1)
    pure (Value.bool (a.block == b.block && a.off < b.off + lb * size && b.off < a.off + la * size))
  | _,_=>pure (Value.bool false)) w=_
 by_cases h0:la=0∨lb=0∨size=0
 ·simp [run_underlying ht,hz,h0]
 ·cases kA with
  | zero=>exact absurd rfl hkA
  | succ kA =>
   cases hfa:w.frozen? a<;>cases hfA:w.frozen? { block:=a.block,off:=kA + 1 } <;>
    simp [run_underlying ht,hz,h0,hnb,hnb',frozen,noView,viewAt,mayBeOne,stringish,shape,Sem.run,hsa,hsb,hfa,hfA,hfb,hfe]
theorem LO.overlapsF {g:FuncId} {fn:Func} {ts:Array TypeId} {tS tR:TypeId} {l1 r2 o2 l2:Nat} {cs1 cs2:List AV} {a:AV} (ho:o.op=.call { callee:=.value (.func g),args:=#[x,y],argTypes:=ts }) (hE:E (.func g)=some (.base (.func (.func g) #[] #[])))
 (hx:E x=some a) (ha:a=.isl cs1 l1) (hcs:cs1≠[]) (hy:E y=some (.osl r2 o2 l2 sz)) (hH2:H r2=some cs2)
 (hf : P.funcs[g]? = some fn) (hname : (fn.name == "runtime.NumGoroutine") = false) (hb : fn.body.isNone = true) (hn : Extern.findNext fn = none) (hfn : Extern.find fn = some (Extern.SlicesOverlaps.overlaps #[tS, tS] #[tR])) (ht : TyOK P tS (.sl e) size bytes zero) (he : TyOK P e l' sz by' z') (_h0 : 0 < sz) :
 LO P o E H f [r2] [] (.base (.bool false)) H:=by
 subst ha
 refine ⟨fun _ _=>rfl,fun E' K hE' hK X φ w ρ hR hst hff=>?_⟩
 rw [ovr_nil]
 have hops:o.op.operands=#[.func g]++#[x,y]:=by rw [ho];rfl
 have hρ:ρ (.func g)=.func (.func g) #[] #[]:=(hR (.func g) _ ((hE' _ (by rw [hops];simp)).trans hE)).base_eq
 have hr1:=hR x _ ((hE' _ (by rw [hops];simp)).trans hx)
 obtain ⟨B,cb,e2,hc2,hcase2⟩:=(hR y _ ((hE' _ (by rw [hops];simp)).trans hy)).osl_inv
 have hrun:∃ A ca,ρ x=.slice A l1 ca∧(Extern.SlicesOverlaps.overlaps #[tS,tS] #[tR] #[.slice A l1 ca,.slice B l2 cb]).run P w=.ok (.bool false) w:=by
  generalize ρ x=v at hr1
  cases hr1 with
  | isl0 A ca=>exact absurd rfl hcs
  | isl _ _ cap b o us hb1 hx1 hcap h1 hc h =>
   refine ⟨_,_,rfl,?_⟩
   rcases hcase2 with ⟨h2,_⟩|⟨b2,q2,p2,rfl,z2⟩
   ·exact run_overlaps_none w tS tR (lay_sl ht) he.sizeOf _ B l1 cap l2 cb (.inr h2)
   ·by_cases hl:l2=0
    ·exact run_overlaps_none w tS tR (lay_sl ht) he.sizeOf _ _ l1 cap l2 cb (.inr hl)
    ·have hk2:=(hK r2 (.inl (by simp))).trans hH2
     obtain ⟨c2,el2,hX2,hh2,_⟩:=hst.cells hk2 p2 (by omega)
     have hbne:b≠b2:=fun e=>hx1 (by rw [e];exact hX2)
     obtain ⟨d,ds,rfl⟩:∃ d ds,cs1=d::ds:=by
      cases cs1 with
      | nil=>exact absurd rfl hcs
      | cons d ds=>exact ⟨d,ds,rfl⟩
     have hcell:=hc 0 d rfl
     unfold World.cell? at hcell
     cases hw:w.heap[b]? with
     | none=>simp [hw] at hcell
     | some ob =>
      cases ob with
      | cells c1 el1 fr1 =>
       simp [hw] at hcell
       have hc1:c1.size≠0:=fun e=>by rw [Array.getElem?_eq_none (by omega)] at hcell;cases hcell
       exact run_overlaps_apart2 w tS tR e (lay_sl ht) sz he.sizeOf ⟨b,o,none⟩ ⟨b2,q2 + o2,none⟩ l1 cap l2 cb hbne el1 el2 c1.size c2.size (by simp [World.shape?,hw]) (by simp [World.shape?,hh2]) hc1 (by simp [World.frozen?,hh2]) (by simp [World.frozen?,hh2])
      | _=>simp [hw] at hcell
 obtain ⟨A,ca,e1,hrun⟩:=hrun
 have hcall:(callFunc g #[ρ x,ρ y]).run P w=.ok (.value (.bool false)) w:=by
  rw [run_callFunc_extern hf hname hb hn hfn,e1,e2,hrun];rfl
 have hex:(execOp ρ o).run P w=.ok (.value (.bool false)) w:=by
  simp only [execOp,ho,resolve,hρ,Deferred.ofValue,Sem.run_bind,Sem.run_pure,Result.andThen_ok,invoke]
  simpa using hcall
 unfold OpW
 rw [hex]
 exact ⟨X,φ,Nxt.refl _ _ _ _ _,hst,.base _⟩
end
end Go.Proofs.YtndbhhgmpjjjhaaGreatDoor
namespace Go.Proofs.YtndbhhgmpjjjhaaGreatDoor
open Go.RowKit
section
variable {P:Program} {o:Oper} {E:Operand→Option AV} {H:Hp} {f:Nat} {t:TypeId} {size bytes:Nat} {zero:List AV} {x:Operand} {e sz:Nat}
theorem LO.lenC {r off len cap:Nat} (ho:o.op=.call { callee:=.builtin .len,args:=#[x],argTypes:=#[t] }) (hx:E x=some (.oslc r off len sz cap)) (ht:TyOK P t (.sl e) size bytes zero) :
 LO P o E H f [] [] (.base (.int .i64 (len:Int))) H :=
 .pure fun X φ w ρ hR=>by
  obtain ⟨A,e1,_⟩:=(hR x (by simp [ho,Op.operands,Call.operands]) _ hx).oslc_inv
  exact ⟨_,by simp [execOp,ho,resolve,invoke,Go.builtin,Builtin.len_,e1,run_underlying (lay_sl ht),goInt];try rfl,.base _⟩
end
theorem Rep.uncap {X:Nat→Prop} {w:World} {φ:Em} {v:Value} {r off len sz cap:Nat} (h:Rep X w φ v (.oslc r off len sz cap)):Rep X w φ v (.osl r off len sz):=by
 cases h with
 | oslc _ _ _ _ _ b o hp hc hs=>exact .osl r off len sz b o cap hp hc hs
 | oslc0 A=>exact .osl0 A _ _ _
theorem W.uncap {P:Program} {k n m:Nat} {c:Code} {T:Tp} {H:Hp} {K:Exit→Nat→Tp→Hp→Prop} {t r off len sz cap:Nat} (ht:T t=some (.oslc r off len sz cap)) (h:W P k n c m (up T t (some (.osl r off len sz))) H K):W P k n c m T H K:=by
 obtain ⟨e,m2,T2,H2,h1,h2⟩:=h
 refine ⟨e,m2,T2,H2,h1,fun B hB a w hsim=>h2 B hB a w ?_⟩
 obtain ⟨h0,X,φ,g1,g2,g3,g4,g5,g6⟩:=hsim
 exact ⟨h0,X,φ,g1,g2,g3,g4,all_up (p:=fun t v=>Rep X w φ (a.tmps.getD t undef) v) (g5 t _ ht).uncap g5,g6⟩
end Go.Proofs.YtndbhhgmpjjjhaaGreatDoor
namespace Go.Proofs.YtndbhhgmpjjjhaaGreatDoor
open Go.RowKit
theorem cp_mid {a ns b cs:List AV} {k:Nat} (hk:k=a.length) (ha:∀ (j:Nat) d,a[j]?=some d→cs[j]?=some d) (hb:∀ (j:Nat) d,b[j]?=some d→cs[k + ns.length + j]?=some d):Cp cs k ns (a++(ns++b)):=fun j c hj=>by
 subst hk
 rcases Nat.lt_or_ge j a.length with h1|h1
 ·rw [List.getElem?_append_left h1] at hj
  exact .inr ⟨.inl h1,ha j c hj⟩
 ·rw [List.getElem?_append_right h1] at hj
  rcases Nat.lt_or_ge (j - a.length) ns.length with h2|h2
  ·rw [List.getElem?_append_left h2] at hj
   exact .inl ⟨h1,hj⟩
  ·rw [List.getElem?_append_right h2] at hj
   have:=hb _ c hj
   rw [show a.length + ns.length + (j - a.length - ns.length)=j from by omega] at this
   exact .inr ⟨.inr (by omega),this⟩
theorem ents_take {t:List Ent} {i:Nat} (h:i≤t.length):(entsC (t.take i)).length=i * 5:=by rw [entsC_len,List.length_take,Nat.min_eq_left h]
theorem ents_split (t:List Ent) (i:Nat):entsC t=entsC (t.take i)++entsC (t.drop i):=by rw [← entsC_app,List.take_append_drop]
theorem ents_tkT {t:List Ent} {i:Nat} (h:i≤t.length):Tk (entsC t) 0 (i * 5) (entsC (t.take i)):=⟨ents_take h,fun j c hj=>by
 rw [ents_split t i,Nat.zero_add,List.getElem?_append_left (List.getElem?_eq_some_iff.1 hj).1]
 exact hj⟩
theorem ents_tkD {t:List Ent} {i:Nat} (h:i≤t.length):Tk (entsC t) (0 + i * 5) ((t.length - i) * 5) (entsC (t.drop i)):=⟨by rw [entsC_len,List.length_drop],fun j c hj=>by
 rw [ents_split t i,List.getElem?_append_right (by rw [ents_take h];omega),ents_take h,show 0 + i * 5 + j - i * 5=j from by omega]
 exact hj⟩
theorem ents_ins (t:List Ent) (i:Nat) (e:Ent):entsC (t.take i++e::t.drop i)=entsC (t.take i)++(entC e++entsC (t.drop i)):=by rw [entsC_app];rfl
set_option maxHeartbeats 1000000 in
theorem insert_any (t:List Ent) (i:Nat) (e:Ent) (hi:i≤t.length) (h0:0 < t.length) (hl:t.length≤1000):AFn Tryz.prog 25 1 [.osl 0 0 t.length 5,.base (.int .i64 (i:Int)),.isl (entC e) 1] (up mt 0 (some (entsC t))) (.osl 1 0 (t.length + 1) 5) (up mt 1 (some (entsC (t.take i++e::t.drop i)))):=by
 refine AFn.caps fun cap hcap=>?_
 refine AFn.eq Tryz.func25 rfl rfl (Nat.le_of_ble_eq_true rfl) ?_
 rw [ents_ins]
 have hpu:(entsC (t.take i)++(entC e++entsC (t.drop i))).all AV.pure1=true:=by rw [← ents_ins];exact entsC_pure _
 have hz:(entC e).length=1 * 5:=rfl
 refine Wq<|qW 1 2 rfl<|qA rfl<|Nl<|Wq<|qW 6 9 rfl<|qM rfl<|qM rfl<|Od rfl rfl (LO.sliceC rfl rfl (Ba rfl rfl) Bnd.no hi (by omega) ty31 ty51)<|Nl<|Wq<|qW 13 16 rfl<|qM rfl<|qH rfl ty31<|qA rfl<|Nl ?_
 rw [show ((1:Nat):Int)=1 from rfl]
 refine Wq<|Wq<|qW 20 22 rfl<|qM rfl<|qE rfl<|Nl<|Wo rfl rfl<|Wu<|Wq<|qW 32 35 rfl<|qM rfl<|Od rfl rfl (LO.lenC rfl rfl ty31)<|qA rfl<|Nl ?_
 by_cases hin:i=t.length
 ·have g1:((i:Int) == (t.length:Int))=true:=by rw [hin];simp
  refine Wq<|Wq<|qW 39 42 rfl<|qM rfl<|qM rfl<|qE rfl<|Nl<|Wt rfl ‹_›<|W.uncap (t:=0) rfl<|Wq<|qW 46 50 rfl<|qM rfl<|qM rfl<|Od rfl rfl (Lap rfl rfl (Ssi rfl rfl hz) rfl (ents_all rfl) ty31 ty31 ty51 (by decide) (by omega) (by omega) (by decide))<|qA rfl<|Nl ?_
  have e1:entsC t++entC e=entsC (t.take i)++(entC e++entsC (t.drop i)):=by
   rw [hin,List.take_length,List.drop_length];simp [entsC]
  rw [e1]
  refine W.rename [(0,0),(1,48)] 2 (T':=up mt 6 (some (.osl 1 0 (t.length + 1) 5))) (H':=up mt 1 (some (entsC (t.take i)++(entC e++entsC (t.drop i))))) (by decide) ?_ ?_ ?_
  ·exact aU (lI rfl) aM
  ·exact aU (kP rfl ‹_›) aM
  refine Wz ⟨.inl rfl,_,(up mt 1 (some (entsC (t.take i)++(entC e++entsC (t.drop i))))),(Rc (Rt0 rfl) Rv),(aU rfl aM),?_⟩
  exact ⟨rfl,rfl⟩
 have g1:((i:Int) == (t.length:Int))=false:=by simp;omega
 have hn1:(t.length:Int) + 1=((t.length + 1:Nat):Int):=by omega
 have hi1:(i:Int) + 1=((i + 1:Nat):Int):=by omega
 refine Wq<|Wq<|qW 39 42 rfl<|qM rfl<|qM rfl<|qE rfl<|Nl<|Wo rfl ‹_›<|Wu ?_
 have hm0:0 < t.length - i:=by omega
 have hm1:t.length - i≤t.length + 1 - (i + 1):=by omega
 have hq0:0 < t.length + 1 - (i + 1):=by omega
 have hq1:t.length + 1 - (i + 1)≤t.length + 1 - i:=by omega
 have hcp1:∀ Z,Cp (entsC (t.take i)++Z) (0 + i * 5) (entC e) (entsC (t.take i)++(entC e++[])):=fun Z=>cp_mid (by rw [ents_take hi];omega) (fun j d hj=>by rw [List.getElem?_append_left (List.getElem?_eq_some_iff.1 hj).1];exact hj) (fun j d hj=>by simp at hj)
 have hcp2:Cp (entsC (t.take i)++(entC e++[])) (0 + (i + 1) * 5) (entsC (t.drop i)) (entsC (t.take i)++(entC e++entsC (t.drop i))):=by
  have h:=Cp.app (cs:=entsC (t.take i)++entC e) (ns:=entsC (t.drop i)) (k:=0 + (i + 1) * 5) (by rw [List.length_append,ents_take hi,hz];omega)
  rw [List.append_assoc] at h
  rw [List.append_nil]
  exact h
 have hD:Tk (entsC t) (0 + i * 5) ((t.length + 1 - (i + 1)) * 5) (entsC (t.drop i)):=by
  have:=ents_tkD hi
  rwa [show t.length - i=t.length + 1 - (i + 1) from by omega] at this
 have hlt1:(entsC (t.take (i + 1))).length=(i + 1) * 5:=ents_take (by omega)
 have hcp3:Cp (entsC t) (0 + (i + 1) * 5) (entsC (t.drop i)) (entsC (t.take (i + 1))++(entsC (t.drop i)++[])):=cp_mid (by rw [hlt1];omega) (fun j d hj=>by
  rw [ents_split t (i + 1),List.getElem?_append_left (List.getElem?_eq_some_iff.1 hj).1];exact hj) (fun j d hj=>by simp at hj)
 have hcp4:Cp (entsC (t.take (i + 1))++(entsC (t.drop i)++[])) (0 + i * 5) (entC e) (entsC (t.take i)++(entC e++entsC (t.drop i))):=cp_mid (by rw [ents_take hi];omega) (fun j d hj=>by
  have hj1:=(List.getElem?_eq_some_iff.1 hj).1
  rw [ents_take hi] at hj1
  rw [List.getElem?_append_left (by rw [hlt1];omega),← hj]
  have e1:entsC (t.take (i + 1))=entsC (t.take i)++entsC ((t.drop i).take 1):=by rw [← entsC_app,← List.take_add]
  rw [e1,List.getElem?_append_left (by rw [ents_take hi];exact hj1)]) (fun j d hj=>by
  rw [List.getElem?_append_right (by rw [hlt1,hz];omega),hlt1,hz,show 0 + i * 5 + 1 * 5 + j - (i + 1) * 5=j from by omega,List.append_nil]
  exact hj)
 by_cases hg:cap < t.length + 1
 ·have g2:decide ((t.length:Int) + 1 > (cap:Int))=true:=decide_eq_true (by omega)
  have hq:(t.length:Int) + 1 - (i:Int)=((t.length + 1 - i:Nat):Int):=by omega
  refine Wq<|Wq<|qW 54 60 rfl<|qM rfl<|qM rfl<|qZ rfl (iW _ (by omega))<|qM rfl<|Od rfl rfl (LO.capC rfl rfl ty31)<|qGt rfl<|Nl<|Wt rfl ‹_›<|Wq<|qW 64 74 rfl<|qM rfl<|qM rfl<|Od rfl rfl (LO.sliceC rfl rfl Bnd.no (Ba rfl rfl) (Nat.zero_le _) (by omega) ty31 ty51)<|qM rfl<|qM rfl<|qZ rfl (iW _ (by omega))<|qM rfl<|Od rfl rfl (LO.sub_in rfl rfl rfl (iW _ (by omega))) ?_
  rw [hq]
  refine Od rfl rfl (LO.append_zerosC rfl rfl rfl rfl (ents_tkT hi) ty31 ty3 ty51 (by decide) (by omega) (by omega) (by omega) (by omega) (by omega) (by decide))<|qA rfl<|Nl ?_
  rw [show i - 0 + (t.length + 1 - i)=t.length + 1 from by omega]
  refine Wq<|qW 78 83 rfl<|qM rfl<|qM rfl<|Od rfl rfl (LO.slice rfl rfl (Ba rfl rfl) Bnd.no (by omega) (by omega) ty31 ty51)<|qM rfl<|Od rfl rfl (LO.copy rfl rfl (Ssi rfl rfl hz) rfl (hcp1 _) ty31 ty31 ty51 (by decide) (by decide) (by omega))<|Nl<|W.uncap (t:=0) rfl<|Wq<|Wd 87 96 (by decide) rfl mixed rfl<|qM rfl<|qM rfl<|qM rfl<|qZ rfl (iW _ (by omega))<|Od rfl rfl (LO.slice rfl rfl (Ba rfl rfl) Bnd.no (by simp;omega) (by omega) ty31 ty51)<|qM rfl<|qM rfl<|Od rfl rfl (LO.slice rfl rfl (Ba rfl rfl) Bnd.no (by omega) (by omega) ty31 ty51)<|Od rfl rfl (LO.copy (m:=t.length - i) rfl rfl (Sso rfl rfl (ents_tkD hi)) rfl hcp2 ty31 ty31 ty51 (by decide) hm0 hm1)<|Nl ⟨by kernel_rfl,(Wq<|qW 100 102 rfl<|qM rfl<|qA rfl<|Nl<|W.rename [(0,0),(1,72)] 2 (T':=up mt 6 (some (.osl 1 0 (t.length + 1) 5))) (H':=up mt 1 (some (entsC (t.take i)++(entC e++entsC (t.drop i))))) (by decide) ?_ ?_ ?_)⟩
  ·exact aU (lI rfl) aM
  ·exact aU (kP rfl ‹_›) aM
  refine Wz ⟨.inl rfl,_,(up mt 1 (some (entsC (t.take i)++(entC e++entsC (t.drop i))))),(Rc (Rt0 rfl) Rv),(aU rfl aM),?_⟩
  exact ⟨rfl,rfl⟩
 ·have g2:decide ((t.length:Int) + 1 > (cap:Int))=false:=decide_eq_false (by omega)
  have hcc:t.length + 1≤cap:=by omega
  refine Wq<|Wq<|qW 54 60 rfl<|qM rfl<|qM rfl<|qZ rfl (iW _ (by omega))<|qM rfl<|Od rfl rfl (LO.capC rfl rfl ty31)<|qGt rfl<|Nl<|Wo rfl ‹_›<|Wu<|Wq<|qW 106 112 rfl<|qM rfl<|qM rfl<|qM rfl<|qZ rfl (iW _ (by omega))<|Od rfl rfl (LO.sliceC (n:=t.length + 1) rfl rfl Bnd.no (Ba rfl hn1) (Nat.zero_le _) hcc ty31 ty51)<|qA rfl<|Nl<|W.uncap (t:=0) (r:=0) (off:=0) (len:=t.length + 1) (sz:=5) (cap:=cap) rfl<|Wq<|Wq<|qW 116 124 rfl<|qM rfl<|qM rfl<|qM rfl<|qM rfl<|qZ rfl (iW _ (by omega))<|Od rfl rfl (LO.slice rfl rfl (Ba rfl rfl) Bnd.no (by simp;omega) (by omega) ty31 ty51)<|Od rfl rfl (LO.overlapsF (tS:=31) (tR:=4) rfl rfl rfl rfl (Cn _ _) rfl rfl Tryz.func51 (by kernel_rfl) (by kernel_rfl) (by kernel_rfl) (by kernel_rfl) ty31 ty51 (by decide))<|qO rfl<|Nl<|Wt rfl rfl<|Wq<|Wd 128 137 (by decide) rfl mixed rfl<|qM rfl<|qM rfl<|qM rfl<|qZ rfl (iW _ (by omega))<|Od rfl rfl (LO.slice rfl rfl (Ba rfl rfl) Bnd.no (by simp;omega) (by omega) ty31 ty51)<|qM rfl<|qM rfl<|Od rfl rfl (LO.slice rfl rfl (Ba rfl rfl) Bnd.no (by omega) (by omega) ty31 ty51)<|Od rfl rfl (LO.copyQ rfl rfl rfl rfl rfl hD hcp3 ty31 ty31 ty51 (by decide) hq0 hq1)<|Nl ⟨by kernel_rfl,(Wq<|qW 141 146 rfl<|qM rfl<|qM rfl<|Od rfl rfl (LO.slice rfl rfl (Ba rfl rfl) Bnd.no (by omega) (by omega) ty31 ty51)<|qM rfl<|Od rfl rfl (LO.copy rfl rfl (Ssi rfl rfl hz) rfl hcp4 ty31 ty31 ty51 (by decide) (by decide) (by omega))<|Nl<|Wq<|qW 150 152 rfl<|qM rfl<|qA rfl<|Nl<|W.alias 152 (152 + 1) (t:=6) (r:=0) rfl rfl (by decide) (by decide) (by decide)<|W.rename [(0,0),(1,152)] 2 (T':=up mt 6 (some (.osl 1 0 (t.length + 1) 5))) (H':=up mt 1 (some (entsC (t.take i)++(entC e++entsC (t.drop i))))) (by decide) ?_ ?_ ?_)⟩
  ·exact aU (lI rfl) aM
  ·exact aU (kP rfl ‹_›) aM
  refine Wz ⟨.inl rfl,_,(up mt 1 (some (entsC (t.take i)++(entC e++entsC (t.drop i))))),(Rc (Rt0 rfl) Rv),(aU rfl aM),?_⟩
  exact ⟨rfl,rfl⟩
end Go.Proofs.YtndbhhgmpjjjhaaGreatDoor
namespace Go.Proofs.YtndbhhgmpjjjhaaGreatDoor
open Go.RowKit
def lstEq (f:AV→AV→Bool):List AV→List AV→Bool
 | [],[]=>true
 | a::l,b::m=>match f a b with
  | true=>lstEq f l m
  | false=>false
 | _,_=>false
theorem lstEq_ok {f:AV→AV→Bool} (hf:∀ a b,f a b=true→a=b):∀ {l m:List AV},lstEq f l m=true→l=m:=by
 intro l
 induction l with
 | nil=>intro m h;cases m with
  | nil=>rfl
  | cons=>cases h
 | cons a l ih=>intro m h;cases m with
  | nil=>cases h
  | cons b m =>
   unfold lstEq at h
   split at h
   ·rename_i hb;rw [hf _ _ hb,ih h]
   ·cases h
def avEq:Nat→AV→AV→Bool
 | 0,a,b=>avSame a b
 | n + 1,a,b=>match a,b with
  | .isl cs k,.isl cs' k'=>match Nat.beq k k' with
   | true=>lstEq (avEq n) cs cs'
   | false=>false
  | .imm cs k,.imm cs' k'=>match Nat.beq k k' with
   | true=>lstEq (avEq n) cs cs'
   | false=>false
  | .agg cs,.agg cs'=>lstEq (avEq n) cs cs'
  | .tup cs,.tup cs'=>lstEq (avEq n) cs cs'
  | a,b=>avSame a b
theorem avEq_ok:∀ (n:Nat) (a b:AV),avEq n a b=true→a=b:=by
 intro n
 induction n with
 | zero=>intro a b h;exact avSame_ok h
 | succ n ih =>
  intro a b h
  unfold avEq at h
  split at h
  ·split at h<;>first|(cases h;done)|skip
   rename_i hk
   rw [Nat.eq_of_beq_eq_true hk,lstEq_ok ih h]
  ·split at h<;>first|(cases h;done)|skip
   rename_i hk
   rw [Nat.eq_of_beq_eq_true hk,lstEq_ok ih h]
  ·rw [lstEq_ok ih h]
  ·rw [lstEq_ok ih h]
  ·exact avSame_ok h
def hlEq:HL→HL→Bool
 | [],[]=>true
 | (r,c)::l,(r',c')::m=>match Nat.beq r r' with
  | true=>match lstEq (avEq 6) c c' with
   | true=>hlEq l m
   | false=>false
  | false=>false
 | _,_=>false
theorem hlEq_ok:∀ {l m:HL},hlEq l m=true→l=m:=by
 intro l
 induction l with
 | nil=>intro m h;cases m with
  | nil=>rfl
  | cons=>cases h
 | cons p l ih=>intro m h;cases m with
  | nil=>cases h
  | cons q m =>
   obtain ⟨r,c⟩:=p
   obtain ⟨r',c'⟩:=q
   unfold hlEq at h
   split at h<;>first|(cases h;done)|skip
   rename_i hr
   split at h<;>first|(cases h;done)|skip
   rename_i hc
   rw [Nat.eq_of_beq_eq_true hr,lstEq_ok (avEq_ok 6) hc,ih h]
structure KnE where
 g:FuncId
 k:Nat
 args:List AV
 L:HL
 v:AV
 L':HL
def KnE.OK (P:Program) (e:KnE):Prop:=FnOK P e.g∧AFn P e.g e.k e.args (lkH e.L) e.v (lkH e.L')
def knL:List KnE→Rec
 | [],_,_,_,_=>none
 | e::l,g,k,args,L=>match Nat.beq e.g g with
  | true=>match Nat.beq e.k k && lstEq (avEq 6) e.args args && hlEq e.L L with
   | true=>some (e.v,e.L')
   | false=>knL l g k args L
  | false=>knL l g k args L
theorem knL_ok {P:Program}:∀ {l:List KnE},(∀ e,e∈l→e.OK P)→RecOK P (knL l):=by
 intro l
 induction l with
 | nil=>intro _ g k args L v L' h;cases h
 | cons e l ih =>
  intro hl g k args L v L' h
  unfold knL at h
  split at h
  ·rename_i hg
   have:=Nat.eq_of_beq_eq_true hg
   subst this
   split at h
   ·rename_i hq
    simp only [Bool.and_eq_true] at hq
    have e1:=Nat.eq_of_beq_eq_true hq.1.1
    have e2:=lstEq_ok (avEq_ok 6) hq.1.2
    have e3:=hlEq_ok hq.2
    simp only [Option.some.injEq,Prod.mk.injEq] at h
    obtain ⟨rfl,rfl⟩:=h
    obtain ⟨h1,h2⟩:=hl e (by simp)
    rw [e1,e2,e3] at h2
    exact ⟨h1,h2⟩
   ·exact ih (fun e he=>hl e (by simp [he])) _ _ _ _ _ _ h
  ·exact ih (fun e he=>hl e (by simp [he])) _ _ _ _ _ _ h
def knO (a b:Rec):Rec:=fun g k args L=>match a g k args L with
 | some r=>some r
 | none=>b g k args L
theorem knO_ok {P:Program} {a b:Rec} (ha:RecOK P a) (hb:RecOK P b):RecOK P (knO a b):=by
 intro g k args L v L' h
 unfold knO at h
 split at h
 ·rename_i r hr
  injection h with h;subst h
  exact ha _ _ _ _ _ _ hr
 ·exact hb _ _ _ _ _ _ h
def hlHas (L:HL):HL→Bool
 | []=>true
 | (r,c)::m=>match lkH L r with
  | some d=>match lstEq (avEq 6) c d with
   | true=>hlHas L m
   | false=>false
  | none=>false
theorem hlHas_ok {L:HL}:∀ {M:HL},hlHas L M=true→∀ r cs,lkH M r=some cs→lkH L r=some cs:=by
 intro M
 induction M with
 | nil=>intro _ r cs h;cases h
 | cons p m ih =>
  obtain ⟨k,c⟩:=p
  intro h r cs hr
  unfold hlHas at h
  split at h<;>first|(cases h;done)|skip
  rename_i d hd
  split at h<;>first|(cases h;done)|skip
  rename_i hc
  have:=lstEq_ok (avEq_ok 6) hc
  subst this
  unfold lkH at hr
  split at hr
  ·rename_i hb
   have:=Nat.eq_of_beq_eq_true hb
   subst this
   injection hr with hr
   rw [hd,hr]
  ·exact ih h r cs hr
def resHas (r:Option (AV × HL)) (v:AV) (L':HL):Bool:=match r with
 | some (u,L)=>match avEq 6 u v with
  | true=>hlHas L L'
  | false=>false
 | none=>false
theorem KnE.run {P:Program} (V:Env P) (f:Nat) (e:KnE) (h:resHas (runE V f e.g e.k e.args e.L) e.v e.L'=true):e.OK P:=by
 unfold resHas at h
 split at h<;>first|(cases h;done)|skip
 rename_i u L hr
 split at h<;>first|(cases h;done)|skip
 rename_i hv
 have:=avEq_ok 6 _ _ hv
 subst this
 obtain ⟨h1,h2⟩:=runE_ok V f _ _ _ _ _ _ hr
 exact ⟨h1,h2.drop (hlHas_ok h)⟩
def gvX (X:Nat→Prop) (K:Hp) (φ:Em):Nat→Prop:=fun b=>X b∧∀ r cs o,K r=some cs→φ r≠some (b,o)
inductive FzN (K:Hp):AV→AV→Prop
 | nils:FzN K .nils (.isl [] 0)
 | same {a:AV} (h:a.pure1=true):FzN K a a
 | osl {r off len sz:Nat} {cs vs vs':List AV} (hr:K r=some cs) (hv:Tk cs off (len * sz) vs) (hl:vs.length=vs'.length) (h1:∀ (i:Nat) b,vs'[i]?=some b→b.one=true) (h:∀ (i:Nat) a b,vs[i]?=some a→vs'[i]?=some b→FzN K a b):FzN K (.osl r off len sz) (.isl vs' len)
theorem FzN.rep {K:Hp} {a b:AV} (h:FzN K a b) {X:Nat→Prop} {φ:Em} {w:World} (hst:St X φ K w):∀ {v:Value},Rep X w φ v a→Rep (gvX X K φ) w mt v b:=by
 induction h with
 | nils =>
  intro v hr
  cases hr
  exact .isl0 _ _
 | same h =>
  intro v hr
  exact (hr.pure1 (φ':=mt) h).keep (Nat.le_refl _) (fun _ _ _=>rfl) (fun _ _=>rfl) (fun _ _ h=>h.1) (fun _ _ h=>h)
 | @osl r off len sz cs vs vs' hr hv hl h1 _ ih =>
  intro v hrep
  obtain ⟨A,cap,rfl,hc,⟨h2,h3⟩|⟨b,o,hp,rfl,hs⟩⟩:=hrep.osl_inv
  ·have:vs'=[]:=List.eq_nil_of_length_eq_zero (by rw [← hl,hv.1,h2];simp)
   subst this
   subst h2
   exact .isl0 _ _
  ·obtain ⟨c,e,hX,hh,hcs⟩:=hst.cells hr hp (by omega)
   have hat:∀ (i:Nat) d,vs[i]?=some d→∃ u,w.cell? ⟨b,o + off + i,none⟩=some u∧Rep X w φ u d:=fun i d hi=>by
    obtain ⟨_,u,g1,g2⟩:=hcs _ d (hv.2 i d hi)
    exact ⟨u,by rw [cell_of hh,Nat.add_assoc];exact g1,g2⟩
   refine .isl vs' len cap b (o + off) (fun i=>(w.cell? ⟨b,o + off + i,none⟩).getD undef) (lt_heap hh) (fun hx=>hx.2 r cs o hr hp) hc h1 (fun i d hi=>?_) fun i d hi=>?_
   ·have hlt:i < vs.length:=by rw [hl];exact (List.getElem?_eq_some_iff.1 hi).1
    obtain ⟨u,g1,_⟩:=hat i vs[i] (List.getElem?_eq_getElem hlt)
    rw [g1];rfl
   ·have hlt:i < vs.length:=by rw [hl];exact (List.getElem?_eq_some_iff.1 hi).1
    obtain ⟨u,g1,g2⟩:=hat i vs[i] (List.getElem?_eq_getElem hlt)
    rw [g1]
    exact ih i vs[i] d (List.getElem?_eq_getElem hlt) hi g2
def lstZ (f:AV→AV→Bool):List AV→List AV→Bool
 | [],[]=>true
 | a::l,b::m=>match f a b && b.one with
  | true=>lstZ f l m
  | false=>false
 | _,_=>false
theorem lstZ_ok {f:AV→AV→Bool} {Q:AV→AV→Prop} (hf:∀ a b,f a b=true→Q a b):∀ {l m:List AV},lstZ f l m=true→l.length=m.length∧(∀ (i:Nat) b,m[i]?=some b→b.one=true)∧∀ (i:Nat) a b,l[i]?=some a→m[i]?=some b→Q a b:=by
 intro l
 induction l with
 | nil=>intro m h;cases m with
  | nil=>exact ⟨rfl,fun i b h=>by simp at h,fun i a b h=>by simp at h⟩
  | cons=>cases h
 | cons a l ih=>intro m h;cases m with
  | nil=>cases h
  | cons b m =>
   unfold lstZ at h
   split at h<;>first|(cases h;done)|skip
   rename_i hb
   rw [Bool.and_eq_true] at hb
   obtain ⟨h1,h2,h3⟩:=ih h
   refine ⟨by simp [h1],fun i c hi=>?_,fun i c d hi hd=>?_⟩
   ·cases i with
    | zero=>simp at hi;subst hi;exact hb.2
    | succ i=>exact h2 i c (by simpa using hi)
   ·cases i with
    | zero=>simp at hi hd;subst hi hd;exact hf _ _ hb.1
    | succ i=>exact h3 i c d (by simpa using hi) (by simpa using hd)
def fzB (L:HL):Nat→AV→AV→Bool
 | 0,a,b=>avSame a b && a.pure1
 | n + 1,a,b=>match a,b with
  | .nils,.isl [] 0=>true
  | .osl r off len sz,.isl cs' len'=>match lkH L r with
   | some cs=>match tkE cs off (len * sz) with
    | some vs=>match Nat.beq len len' with
     | true=>lstZ (fzB L n) vs cs'
     | false=>false
    | none=>false
   | none=>false
  | a,b=>avSame a b && a.pure1
theorem fzB_ok (L:HL):∀ n a b,fzB L n a b=true→FzN (lkH L) a b:=by
 intro n
 induction n with
 | zero =>
  intro a b h
  unfold fzB at h
  rw [Bool.and_eq_true] at h
  rw [← avSame_ok h.1]
  exact .same h.2
 | succ n ih =>
  intro a b h
  unfold fzB at h
  split at h
  ·exact .nils
  ·split at h<;>first|(cases h;done)|skip
   rename_i cs hl
   split at h<;>first|(cases h;done)|skip
   rename_i vs hv
   split at h<;>first|(cases h;done)|skip
   rename_i hn
   have:=Nat.eq_of_beq_eq_true hn
   subst this
   obtain ⟨h1,h2,h3⟩:=lstZ_ok ih h
   exact .osl hl (tkE_ok hv) h1 h2 h3
  ·rw [Bool.and_eq_true] at h
   rw [← avSame_ok h.1]
   exact .same h.2
inductive FzA (K:Hp):AV→AV→Prop
 | one {a b:AV} (h:FzN K a b):FzA K a b
 | agg {cs cs':List AV} (hl:cs.length=cs'.length) (h1:∀ (i:Nat) b,cs'[i]?=some b→b.one=true) (h:∀ (i:Nat) a b,cs[i]?=some a→cs'[i]?=some b→FzN K a b):FzA K (.agg cs) (.agg cs')
theorem FzA.rep {K:Hp} {a b:AV} (h:FzA K a b) {X:Nat→Prop} {φ:Em} {w:World} {v:Value} (hst:St X φ K w) (hr:Rep X w φ v a):Rep (gvX X K φ) w mt v b:=by
 cases h with
 | one h=>exact h.rep hst hr
 | agg hl h1 h =>
  cases hr with
  | agg vs _ hl2 _ hh =>
   refine .agg vs _ (by omega) h1 fun i u c hu hc=>?_
   have hlt:i < _:=(List.getElem?_eq_some_iff.1 hc).1
   rw [← hl] at hlt
   exact (h i _ c (List.getElem?_eq_getElem hlt) hc).rep hst (hh i u _ hu (List.getElem?_eq_getElem hlt))
def fzAB (L:HL) (a b:AV):Bool:=match a,b with
 | .agg cs,.agg cs'=>lstZ (fzB L 6) cs cs'
 | a,b=>fzB L 6 a b
theorem fzAB_ok {L:HL} {a b:AV} (h:fzAB L a b=true):FzA (lkH L) a b:=by
 unfold fzAB at h
 split at h
 ·obtain ⟨h1,h2,h3⟩:=lstZ_ok (fzB_ok L 6) h
  exact .agg h1 h2 h3
 ·exact .one (fzB_ok L 6 _ _ h)
theorem AFn.give {P:Program} {g:FuncId} {k:Nat} {args args':List AV} {H:Hp} {v:AV} (h:AFn P g 0 args' mt v mt) (hv:v.pure=true) (hl:args.length=args'.length) (ha:∀ (i:Nat) a b,args[i]?=some a→args'[i]?=some b→FzA H a b):AFn P g k args H v mt:=by
 intro X φ w vals hs hR hst hφ
 have hst0:St (gvX X H φ) mt mt w:=⟨fun r cs hr=>(by cases hr),fun r r' cs cs' b o o' hr=>(by cases hr),hst.gl.sub fun _ h=>h.1⟩
 refine (h (gvX X H φ) mt w vals (by omega) (fun i x b hx hb=>?_) hst0 (fun _ _=>rfl)).mono ?_
 ·have hlt:i < args'.length:=(List.getElem?_eq_some_iff.1 hb).1
  rw [← hl] at hlt
  exact (ha i _ b (List.getElem?_eq_getElem hlt) hb).rep hst (hR i x _ hx (List.getElem?_eq_getElem hlt))
 rintro e w' ⟨x,X',φ',rfl,h1,h2,h3⟩
 refine ⟨x,X',φ,rfl,⟨h1.os,h1.tape,h1.output,h1.size,fun b hb _=>h1.same b hb fun r cs o hr=>(by cases hr),h1.bs,fun b hb hx=>(h1.xs b hb hx).1,fun b hb hx=>?_,fun _ _=>rfl,fun r cs b o hr=>(by cases hr)⟩,⟨fun r cs hr=>(by cases hr),fun r r' cs cs' b o o' hr=>(by cases hr),h2.gl⟩,h3.pure hv⟩
 by_cases ho:∃ r cs o,H r=some cs∧φ r=some (b,o)
 ·exact .inr ho
 ·refine (h1.xk b hb ⟨hx,fun r cs o hr hp=>ho ⟨r,cs,o,hr,hp⟩⟩).imp id fun ⟨r,cs,o,hr,_⟩=>by cases hr
theorem KnE.give {P:Program} {g:FuncId} {k:Nat} {a b:AV} {L:HL} {v:AV} (hF:FnOK P g) (h:AFn P g 0 [b] mt v mt) (hv:v.pure=true) (hz:fzAB L a b=true):KnE.OK P ⟨g,k,[a],L,v,[]⟩ :=
 ⟨hF,h.give hv rfl fun i x y hx hy=>by
  match i with
  | 0=>simp at hx hy;subst hx hy;exact fzAB_ok hz
  | i + 1=>simp at hx⟩
end Go.Proofs.YtndbhhgmpjjjhaaGreatDoor
namespace Go.Proofs.YtndbhhgmpjjjhaaGreatDoor
open Go.RowKit
def AV.bas1:AV→Bool
 | .base _=>true
 | _=>false
def AV.bas2:AV→Bool
 | .agg cs=>cs.all AV.bas1
 | a=>a.bas1
def AV.bas:AV→Bool
 | .tup vs=>vs.all AV.bas2
 | a=>a.bas2
theorem Rep.bas1 {X X':Nat→Prop} {w w':World} {φ φ':Em} {v:Value} {a:AV} (h:Rep X w φ v a) (hp:a.bas1=true):Rep X' w' φ' v a:=by
 cases a<;>first|(cases hp;done)|skip
 rw [h.base_eq]
 exact .base _
theorem Rep.bas2 {X X':Nat→Prop} {w w':World} {φ φ':Em} {v:Value} {a:AV} (h:Rep X w φ v a) (hp:a.bas2=true):Rep X' w' φ' v a:=by
 by_cases ha:∃ cs,a=.agg cs
 ·obtain ⟨cs,rfl⟩:=ha
  cases h with
  | agg vs _ hl h1 h=>exact .agg vs cs hl h1 fun i u c hu hc=>(h i u c hu hc).bas1 (List.all_eq_true.1 hp c (List.mem_of_getElem? hc))
 ·have:a.bas1=true:=by
   cases a<;>first|exact hp|exact absurd ⟨_,rfl⟩ ha
  exact h.bas1 this
theorem Rep.bas {X X':Nat→Prop} {w w':World} {φ φ':Em} {v:Value} {a:AV} (h:Rep X w φ v a) (hp:a.bas=true):Rep X' w' φ' v a:=by
 by_cases ha:∃ cs,a=.tup cs
 ·obtain ⟨cs,rfl⟩:=ha
  cases h with
  | tup vs _ hl h=>exact .tup vs cs hl fun i u c hu hc=>(h i u c hu hc).bas2 (List.all_eq_true.1 hp c (List.mem_of_getElem? hc))
 ·have:a.bas2=true:=by
   cases a<;>first|exact hp|exact absurd ⟨_,rfl⟩ ha
  exact h.bas2 this
theorem AFn.thaw {P:Program} {g:FuncId} {k:Nat} {args args':List AV} {H:Hp} {v:AV} (h:AFn P g 0 args' mt v mt) (hv:v.bas=true) (hl:args.length=args'.length) (ha:∀ (i:Nat) a b,args[i]?=some a→args'[i]?=some b→FzA H a b):AFn P g k args H v H:=by
 intro X φ w vals hs hR hst hφ
 have hst0:St (gvX X H φ) mt mt w:=⟨fun r cs hr=>(by cases hr),fun r r' cs cs' b o o' hr=>(by cases hr),hst.gl.sub fun _ h=>h.1⟩
 refine (h (gvX X H φ) mt w vals (by omega) (fun i x b hx hb=>?_) hst0 (fun _ _=>rfl)).mono ?_
 ·have hlt:i < args'.length:=(List.getElem?_eq_some_iff.1 hb).1
  rw [← hl] at hlt
  exact (ha i _ b (List.getElem?_eq_getElem hlt) hb).rep hst (hR i x _ hx (List.getElem?_eq_getElem hlt))
 rintro e w' ⟨x,X',φ',rfl,h1,h2,h3⟩
 have hsame:∀ b,b < w.heap.size→w'.heap[b]?=w.heap[b]?:=fun b hb=>h1.same b hb fun r cs o hr=>(by cases hr)
 let X2:Nat→Prop:=fun b=>X' b∨∃ r cs o,H r=some cs∧φ r=some (b,o)
 have hown:∀ b r cs o,H r=some cs→φ r=some (b,o)→X b∧b < w.heap.size:=fun b r cs o hr hp=>by
  obtain ⟨_,j2⟩|⟨b2,o2,j1,j2,j3⟩:=hst.1 r cs hr
  ·rw [j2] at hp;cases hp
  ·rw [j1] at hp
   injection hp with hp
   injection hp with e1 e2
   subst e1
   exact ⟨j2,j3.lt⟩
 have hx2:∀ b,b < w.heap.size→X2 b→X b:=fun b hb hx=>by
  rcases hx with hx|⟨r,cs,o,hr,hp⟩
  ·exact (h1.xs b hb hx).1
  ·exact (hown b r cs o hr hp).1
 have hkeep:∀ v a,Rep X w φ v a→Rep X2 w' φ v a:=fun v a hr=>hr.keep h1.size (fun b hb _=>hsame b hb) h1.bs hx2 (fun _ _ h=>h)
 refine ⟨x,X2,φ,rfl,⟨h1.os,h1.tape,h1.output,h1.size,fun b hb _=>hsame b hb,h1.bs,hx2,fun b hb hx=>?_,fun _ _=>rfl,fun r cs b o hr hp=>.inr ⟨r,cs,o,hr,hp⟩⟩,⟨fun r cs hr=>?_,hst.2,?_⟩,h3.bas hv⟩
 ·by_cases ho:∃ r cs o,H r=some cs∧φ r=some (b,o)
  ·exact .inl (.inr ho)
  ·refine .inl (.inl ?_)
   refine (h1.xk b hb ⟨hx,fun r cs o hr hp=>ho ⟨r,cs,o,hr,hp⟩⟩).elim id fun ⟨r,cs,o,hr,_⟩=>(by cases hr)
 ·obtain j|⟨b,o,j1,j2,j3⟩:=hst.1 r cs hr
  ·exact .inl j
  ·exact .inr ⟨b,o,j1,.inr ⟨r,cs,o,hr,j1⟩,j3.keep (hsame b j3.lt) hkeep⟩
 ·refine ⟨fun g vs hg=>?_,fun g hg=>?_⟩
  ·obtain ⟨a1,a2,a3⟩:=hst.gl.1 g vs hg
   refine ⟨Nat.lt_of_lt_of_le a1 h1.size,fun hx=>a2 (hx2 g a1 hx),fun i v hv=>?_⟩
   rw [← a3 i v hv]
   exact World.cell?_of_block (hsame g a1)
  ·obtain ⟨a1,a2,n,a3⟩:=hst.gl.2 g hg
   refine ⟨Nat.lt_of_lt_of_le a1 h1.size,fun hx=>a2 (hx2 g a1 hx),n,?_⟩
   rw [← a3]
   exact World.cell?_of_block (hsame g a1)
end Go.Proofs.YtndbhhgmpjjjhaaGreatDoor
namespace Go.Proofs.YtndbhhgmpjjjhaaGreatDoor
open Go.RowKit
theorem entsC_one (l:List Ent):(entsC l).all AV.one=true:=by
 induction l with
 | nil=>rfl
 | cons x l ih=>rw [show entsC (x::l)=entC x++entsC l from rfl,List.all_append,ih];rfl
theorem find_own (t:List Ent) (p:Pre) (h:TabP t):AFn Tryz.prog 21 1 [.osl 0 0 t.length 5,.agg (preC p)] (up mt 0 (some (entsC t))) (.tup [.base (.int .i64 ((idxE t p:Nat):Int)),.base (.bool (hitE t p))]) (up mt 0 (some (entsC t))):=by
 refine AFn.thaw (find_any t p h) rfl rfl fun i a b ha hb=>?_
 match i with
 | 0 =>
  simp at ha hb
  subst ha hb
  refine .one (.osl (cs:=entsC t) (vs:=entsC t) rfl (ents_all rfl) rfl (fun j c hj=>?_) fun j c d hj hk=>?_)
  ·exact List.all_eq_true.1 (entsC_one t) c (List.mem_of_getElem? hj)
  ·rw [hj] at hk;injection hk with hk;subst hk
   exact .same (List.all_eq_true.1 (entsC_pure t) c (List.mem_of_getElem? hj))
 | 1 =>
  simp at ha hb
  subst ha hb
  refine .agg rfl (fun j c hj=>?_) fun j c d hj hk=>?_
  ·match j with
   | 0|1|2|3=>injection hj with hj;subst hj;rfl
   | j + 4=>simp [preC,adC] at hj
  ·rw [hj] at hk;injection hk with hk;subst hk
   match j with
   | 0|1|2|3=>injection hj with hj;subst hj;exact .same rfl
   | j + 4=>simp [preC,adC] at hj
 | i + 2=>simp at ha
set_option maxHeartbeats 1000000 in
theorem put_new (t:List Ent) (p:Pre) (v:Int) (h:TabP t) (h0:0 < t.length) (hl:t.length < 512) (hp:PreOk p) (hh:hitE t p=false):AFn Tryz.prog 9 0 [.isl (entsC t) t.length,.agg (preC p),.base (.int .i64 v)] mt (.tup [.isl (entsC (putE t p v)) (putE t p v).length,.base (.int .i64 0)]) mt:=by
 refine AFn.eq Tryz.func9 rfl rfl (Nat.le_of_ble_eq_true rfl) ?_
 have h1:=tvalid_any t h
 have h2:=pvalid_ok p hp
 have h3:=tclone_any t h0 (by omega)
 have h4:=find_own t p h
 have h5:=insert_any t (idxE t p) ⟨p,v⟩ (idxE_le t p) h0 (by omega)
 have hne:entsC t≠[]:=fun e=>by have:=entsC_len t;rw [e] at this;simp at this;omega
 have hpe:putE t p v=t.take (idxE t p)++⟨p,v⟩::t.drop (idxE t p):=by unfold putE;rw [hh];rfl
 have hpl:t.length + 1=(putE t p v).length:=by rw [hpe];have:=idxE_le t p;simp;omega
 rw [← hpe,hpl] at h5
 rw [hh] at h4
 have g9:((t.length:Int) == 512)=false:=by simp;omega
 refine Wq<|qW 0 3 rfl<|qC rfl<|qA rfl<|qA rfl<|Nl<|Wq<|Wq<|qW 7 15 rfl<|qM rfl<|qY rfl (h1) fok22 rfl<|qO rfl<|qM rfl<|gG rfl rfl ty36 rfl (Tl rfl)<|gY rfl rfl (h2) fok23 rfl<|gO rfl rfl<|qP rfl rfl rfl<|Nl<|Wo rfl rfl<|Wu<|Wq<|qW 25 28 rfl<|qM rfl<|Od rfl rfl (LO.callO (fr:=[]) rfl rfl (h3) fok24 (.cons rfl (.pure rfl) .nil) (entsC_pure _) (by decide))<|qA rfl<|Nl<|Wq<|qW 32 40 rfl<|qM rfl<|qG rfl ty36 rfl (Tl rfl)<|Od rfl rfl (C1 (fr:=[]) rfl rfl (h4) fok21 (.osl rfl rfl (.cons rfl (.pure rfl) .nil)) rfl (entsC_pure _) (entsC_pure _) hne (by decide) rfl)<|qM rfl<|qX rfl<|qX rfl<|qA rfl<|qA rfl<|Nl<|Wq<|Wb<|Wq<|qW 44 46 rfl<|qM rfl<|qA rfl<|Nl<|Wo rfl rfl<|Wq<|qW 60 64 rfl<|qM rfl<|Od rfl rfl (LO.len rfl rfl ty31)<|qE rfl<|qA rfl<|Nl<|Wo rfl ‹_›<|qW 74 82 rfl<|qM rfl<|qM rfl<|qG rfl ty36 rfl (Tl rfl)<|qM rfl<|Od rfl rfl (Bs rfl ty51 (.cons rfl rfl rfl rfl (Sl rfl) (.cons rfl rfl rfl rfl (Sl rfl) .nil)))<|Od rfl rfl (LO.buildSlice rfl ty31 ty51 (by decide) (by decide) (.cons rfl rfl rfl rfl (Sl rfl) .nil))<|Od rfl rfl (LO.callS (fr:=[79]) rfl rfl (h5) fok25 (.osl rfl rfl (.cons rfl (.pure rfl) (.cons rfl (.one (.osl (by decide) rfl (Tl rfl) rfl)) .nil))) rfl (entsC_pure _) (entsC_pure _) hne (by decide) (by decide) (by decide))<|qA rfl<|Nl<|Wq<|qW 86 89 rfl<|qM rfl<|qA rfl<|qA rfl<|Nl<|Wy (t:=6) rfl rfl (ents_all rfl) (entsC_pure _)<|Wz ⟨.inl rfl,_,mt,(Rc (Rt0 rfl) (Rc (Rt0 rfl) Rv)),aM,?_⟩
 exact ⟨rfl,rfl⟩
theorem ents_set {v:Int}:∀ (t:List Ent) (i:Nat) (h:i < t.length),(entsC t).set (i * 5 + 4) (.base (.int .i64 v))=entsC (t.set i ⟨t[i].p,v⟩):=by
 intro t
 induction t with
 | nil=>intro i h;simp at h
 | cons x t ih =>
  intro i h
  cases i with
  | zero=>rfl
  | succ i =>
   have hi:i < t.length:=by simpa using h
   have:=ih i hi
   rw [show (i + 1) * 5 + 4=i * 5 + 4 + 5 from by omega]
   show entC x++(entsC t).set (i * 5 + 4) (.base (.int .i64 v))=entC x++entsC (t.set i ⟨t[i].p,v⟩)
   rw [this]
theorem ents_sp {t:List Ent} {i:Nat} {v:Int} (h:i < t.length):Sp (entsC t) (0 + i * 5 + 4) [.base (.int .i64 v)] (entsC (t.set i ⟨t[i].p,v⟩)):=by
 have:=Sp.set (entsC t) (i * 5 + 4) (.base (.int .i64 v)) (by rw [entsC_len];omega)
 rw [ents_set t i h] at this
 simpa using this
set_option maxHeartbeats 1000000 in
theorem put_hit (t:List Ent) (p:Pre) (v:Int) (h:TabP t) (hp:PreOk p) (hh:hitE t p=true):AFn Tryz.prog 9 0 [.isl (entsC t) t.length,.agg (preC p),.base (.int .i64 v)] mt (.tup [.isl (entsC (putE t p v)) (putE t p v).length,.base (.int .i64 0)]) mt:=by
 refine AFn.eq Tryz.func9 rfl rfl (Nat.le_of_ble_eq_true rfl) ?_
 obtain ⟨hi,hip⟩:=hit_at hh
 have hlen:=h.len
 have h0:0 < t.length:=by omega
 have h1:=tvalid_any t h
 have h2:=pvalid_ok p hp
 have h3:=tclone_any t h0 (by omega)
 have h4:=find_own t p h
 have hne:entsC t≠[]:=fun e=>by have:=entsC_len t;rw [e] at this;simp at this;omega
 have hpe:putE t p v=t.set (idxE t p) ⟨p,v⟩:=by unfold putE;rw [hh];rfl
 have hpl:t.length=(putE t p v).length:=by rw [hpe];simp
 have hsp:=ents_sp (v:=v) hi
 rw [hip,← hpe] at hsp
 rw [hh] at h4
 obtain ⟨i,hie⟩:∃ i,idxE t p=i:=⟨_,rfl⟩
 rw [hie] at h4 hi hsp
 refine Wq<|qW 0 3 rfl<|qC rfl<|qA rfl<|qA rfl<|Nl<|Wq<|Wq<|qW 7 15 rfl<|qM rfl<|qY rfl (h1) fok22 rfl<|qO rfl<|qM rfl<|gG rfl rfl ty36 rfl (Tl rfl)<|gY rfl rfl (h2) fok23 rfl<|gO rfl rfl<|qP rfl rfl rfl<|Nl<|Wo rfl rfl<|Wu<|Wq<|qW 25 28 rfl<|qM rfl<|Od rfl rfl (LO.callO (fr:=[]) rfl rfl (h3) fok24 (.cons rfl (.pure rfl) .nil) (entsC_pure _) (by decide))<|qA rfl<|Nl<|Wq<|qW 32 40 rfl<|qM rfl<|qG rfl ty36 rfl (Tl rfl)<|Od rfl rfl (C1 (fr:=[]) rfl rfl (h4) fok21 (.osl rfl rfl (.cons rfl (.pure rfl) .nil)) rfl (entsC_pure _) (entsC_pure _) hne (by decide) rfl)<|qM rfl<|qX rfl<|qX rfl<|qA rfl<|qA rfl<|Nl<|Wq<|Wb<|Wq<|qW 44 46 rfl<|qM rfl<|qA rfl<|Nl<|Wt rfl rfl<|qW 50 56 rfl<|qM rfl<|qM rfl<|qM rfl<|Od rfl rfl (Ia rfl rfl rfl rfl ty31 ty51 (by omega))<|qF rfl ty51 rfl<|qS rfl ty3 hsp rfl<|Nl<|Wq<|qW 86 89 rfl<|qM rfl<|qA rfl<|qA rfl<|Nl<|Wy (t:=6) rfl rfl (ents_all hpl.symm) (entsC_pure _) ?_
 rw [hpl]
 refine Wz ⟨.inl rfl,_,mt,(Rc (Rt0 rfl) (Rc (Rt0 rfl) Rv)),aM,?_⟩
 exact ⟨rfl,rfl⟩
end Go.Proofs.YtndbhhgmpjjjhaaGreatDoor
namespace Go.Proofs.YtndbhhgmpjjjhaaGreatDoor
open Go.RowKit
theorem AFn.nil0 {P:Program} {f:FuncId} {k:Nat} {args:List AV} {H H':Hp} {v:AV} (h:AFn P f k (.isl [] 0::args) H v H'):AFn P f k (.nils::args) H v H':=fun X φ w vals h1 h2 h3 h4 =>
 h X φ w vals h1 (fun i x b hx hb=>by
  match i with
  | 0 =>
   simp at hb
   subst hb
   have h9:=h2 0 x .nils hx rfl
   cases h9
   exact .isl0 _ _
  | i + 1=>exact h2 (i + 1) x b hx hb) h3 h4
theorem TabP.nil:TabP []:=⟨List.Pairwise.nil,fun e h=>(by cases h),Nat.zero_le _⟩
theorem get_nil (p:Pre):AFn Tryz.prog 8 0 [.nils,.agg (preC p)] mt (.tup [.base (.int .i64 0),.base (.bool false)]) mt:=AFn.nil0 (get_any [] p .nil)
theorem covering_nil (p:Pre):AFn Tryz.prog 13 0 [.nils,.agg (preC p)] mt (.isl [] 0) mt:=AFn.nil0 (covering_any [] p .nil)
theorem clone_nil:AFn Tryz.prog 24 0 [.base (.slice none 0 0)] mt .nils mt:=by
 refine AFn.eq Tryz.func24 rfl rfl (Nat.le_of_ble_eq_true rfl)<|Wq<|qW 0 1 rfl<|qA rfl<|Nl<|Wq<|Wq<|qW 5 7 rfl<|qM rfl<|Od rfl rfl (LO.eqNilB rfl rfl rfl ty31)<|Nl<|Wt rfl rfl<|Wq<|qW 11 12 rfl<|qA rfl<|Nl<|Wz ⟨.inl rfl,_,mt,(Rc (Rt0 rfl) Rv),aM,?_⟩
 exact ⟨rfl,rfl⟩
theorem AFn.nilB {P:Program} {f:FuncId} {k:Nat} {args:List AV} {H H':Hp} {v:AV} (h:AFn P f k (.base (.slice none 0 0)::args) H v H'):AFn P f k (.nils::args) H v H':=fun X φ w vals h1 h2 h3 h4 =>
 h X φ w vals h1 (fun i x b hx hb=>by
  match i with
  | 0 =>
   simp at hb
   subst hb
   have h9:=h2 0 x .nils hx rfl
   cases h9
   exact .base _
  | i + 1=>exact h2 (i + 1) x b hx hb) h3 h4
theorem clone_nils:AFn Tryz.prog 24 0 [.nils] mt .nils mt:=AFn.nilB clone_nil
theorem insert_nil (e:Ent):AFn Tryz.prog 25 0 [.nils,.base (.int .i64 0),.isl (entC e) 1] mt (.osl 0 0 1 5) (up mt 0 (some (entC e))):=by
 refine AFn.eq Tryz.func25 rfl rfl (Nat.le_of_ble_eq_true rfl) ?_
 have hz:(entC e).length=1 * 5:=rfl
 have hpu:(entC e).all AV.pure1=true:=rfl
 refine W.name 0 1 (t:=0) (sz:=5) rfl (by decide) (by decide)<|Wq<|qW 1 2 rfl<|qA rfl<|Nl<|Wq<|qW 6 9 rfl<|qM rfl<|qM rfl<|Od rfl rfl (LO.slice (m:=0) rfl rfl (Ba rfl rfl) Bnd.no (by decide) (by decide) ty31 ty51)<|Nl<|Wq<|qW 13 16 rfl<|qM rfl<|qH rfl ty31<|qA rfl<|Nl<|Wq<|Wq<|qW 20 22 rfl<|qM rfl<|qE rfl<|Nl<|Wo rfl rfl<|Wu<|Wq<|qW 32 35 rfl<|qM rfl<|Od rfl rfl (LO.len rfl rfl ty31)<|qA rfl<|Nl<|Wq<|Wq<|qW 39 42 rfl<|qM rfl<|qM rfl<|qE rfl<|Nl<|Wt rfl rfl<|Wq<|qW 46 50 rfl<|qM rfl<|qM rfl<|Od rfl rfl (Lap rfl rfl (Ssi rfl rfl hz) rfl (Tl rfl) ty31 ty31 ty51 (by decide) (by decide) (by decide) (by decide))<|qA rfl<|Nl<|W.rename [(0,48)] 1 (T':=up mt 6 (some (.osl 0 0 1 5))) (H':=up mt 0 (some (entC e))) (by decide) ?_ ?_ ?_
 ·exact aU (lI rfl) aM
 ·exact aU (kR rfl) aM
 refine Wz ⟨.inl rfl,_,(up mt 0 (some (entC e))),(Rc (Rt0 rfl) Rv),(aU rfl aM),?_⟩
 exact ⟨rfl,rfl⟩
theorem put_nil (p:Pre) (v:Int) (hp:PreOk p):AFn Tryz.prog 9 0 [.nils,.agg (preC p),.base (.int .i64 v)] mt (.tup [.isl (entsC (putE [] p v)) (putE [] p v).length,.base (.int .i64 0)]) mt:=by
 refine AFn.eq Tryz.func9 rfl rfl (Nat.le_of_ble_eq_true rfl) ?_
 have h1:=AFn.nil0 (tvalid_any [] .nil)
 have h2:=pvalid_ok p hp
 have h3:=clone_nils
 have h4:=AFn.nil0 (find_any [] p .nil)
 have h5:=insert_nil ⟨p,v⟩
 have hpu:(entC ⟨p,v⟩).all AV.pure1=true:=rfl
 refine Wq<|qW 0 3 rfl<|qC rfl<|qA rfl<|qA rfl<|Nl<|Wq<|Wq<|qW 7 15 rfl<|qM rfl<|qY rfl (h1) fok22 rfl<|qO rfl<|qM rfl<|gG rfl rfl ty36 rfl (Tl rfl)<|gY rfl rfl (h2) fok23 rfl<|gO rfl rfl<|qP rfl rfl rfl<|Nl<|Wo rfl rfl<|Wu<|Wq<|qW 25 28 rfl<|qM rfl<|qY rfl (h3) fok24 rfl<|qA rfl<|Nl<|Wq<|qW 32 40 rfl<|qM rfl<|qG rfl ty36 rfl (Tl rfl)<|qY rfl (h4) fok21 rfl<|qM rfl<|qX rfl<|qX rfl<|qA rfl<|qA rfl<|Nl<|Wq<|Wb<|Wq<|qW 44 46 rfl<|qM rfl<|qA rfl<|Nl<|Wo rfl rfl<|Wq<|qW 60 64 rfl<|qM rfl<|qH rfl ty31<|qE rfl<|qA rfl<|Nl<|Wo rfl rfl<|qW 74 82 rfl<|qM rfl<|qM rfl<|qG rfl ty36 rfl (Tl rfl)<|qM rfl<|Od rfl rfl (Bs rfl ty51 (.cons rfl rfl rfl rfl (Sl rfl) (.cons rfl rfl rfl rfl (Sl rfl) .nil)))<|Od rfl rfl (LO.buildSlice rfl ty31 ty51 (by decide) (by decide) (.cons rfl rfl rfl rfl (Sl rfl) .nil))<|Od rfl rfl (LO.callO (fr:=[79]) rfl rfl (h5) fok25 (.cons rfl (.pure rfl) (.cons rfl (.pure rfl) (.cons rfl (.one (.osl (by decide) rfl (Tl rfl) rfl)) .nil))) rfl (by decide))<|qA rfl<|Nl<|Wq<|qW 86 89 rfl<|qM rfl<|qA rfl<|qA rfl<|Nl<|Wy (t:=6) rfl rfl (Tl rfl) hpu<|Wz ⟨.inl rfl,_,mt,(Rc (Rt0 rfl) (Rc (Rt0 rfl) Rv)),aM,?_⟩
 exact ⟨rfl,rfl⟩
end Go.Proofs.YtndbhhgmpjjjhaaGreatDoor
namespace Go.Proofs.YtndbhhgmpjjjhaaGreatDoor
open Go.RowKit
theorem objs_tk {l:List ObjR} {k:Nat} (h:k < l.length):Tk (objsC l) (k * 6) 6 (objC l[k]):=flat_tk (c:=objC) (fun _=>rfl) h
set_option maxHeartbeats 1000000 in
theorem permits_any (l:List ObjR) (p:Pre) (asn:Int) (hp:PreOk p) (ho:∀ o∈l,PreOk o.p) (hl:l.length≤1000):AFn Tryz.prog 14 0 [.isl (objsC l) l.length,.agg (preC p),.base (.int .i64 asn)] mt (.base (.int .i64 (prmK cvP p asn 11 7 9 l 11))) mt:=by
 refine AFn.eq Tryz.func14 rfl rfl (Nat.le_of_ble_eq_true rfl) ?_
 have h0:=pvalid_ok p hp
 obtain ⟨R,hR⟩:∃ R,prmK cvP p asn 11 7 9 l 11=R:=⟨_,rfl⟩
 rw [hR]
 refine Wq<|qW 0 2 rfl<|qC rfl<|qA rfl<|Nl<|Wq<|Wq<|qW 6 9 rfl<|qG rfl ty36 rfl (Tl rfl)<|qY rfl (h0) fok23 rfl<|qO rfl<|Nl<|Wo rfl rfl<|Wu<|Wq<|qW 18 19 rfl<|qA rfl<|Nl<|Wq<|Wq<|qW 23 26 rfl<|qM rfl<|qH rfl ty26<|qM rfl<|Nl<|Wb<|W.loop_keep (α:=Nat × Int) (fun x=>l.length - x.1) 1 (fun x=>[(7,.base (.int .i64 x.2)),(15,.base (.int .i64 (x.1:Int)))]) (fun x=>up mt 0 (some (preC p))) (fun x=>x.1≤l.length∧prmK cvP p asn 11 7 9 (l.drop x.1) x.2=R) (0,11) [(0,0)] (.cons (t:=2) rfl (by exact .inl rfl) (.cons (t:=4) rfl (by exact .inr ⟨rfl,fun _ h=>by cases h⟩) (.cons (t:=13) rfl (by exact .inl rfl) (.cons (t:=14) rfl (by exact .inl rfl) .nil)))) (show 0≤l.length∧prmK cvP p asn 11 7 9 (l.drop 0) 11=R from ⟨Nat.zero_le _,hR⟩) (by decide) ?_ ?_ ?_
 ·exact lC (lR rfl) (lC (lR rfl) lN)
 ·exact aU (kR rfl) aM
 rintro ⟨k,e⟩ hIA ihA
 try (dsimp only at hIA)
 try dsimp only [baseT,List.cons_append,List.nil_append]
 obtain ⟨hk,hI⟩:=hIA
 by_cases hc:k < l.length
 ·have g1:decide ((k:Int) < (l.length:Int))=true:=decide_eq_true (by omega)
  have hkk:(k:Int) + 1=((k + 1:Nat):Int):=by omega
  have htk:=objs_tk hc
  have hok:=ho l[k] (List.getElem_mem hc)
  rw [List.drop_eq_getElem_cons hc] at hI
  obtain ⟨o,hoe⟩:∃ o,l[k]=o:=⟨_,rfl⟩
  rw [hoe] at htk hok hI
  unfold prmK at hI
  have h1:=covers_any o.p p hok
  refine Wq<|qW 30 31 rfl<|qK rfl<|Nl<|Wq<|Wt rfl ‹_›<|Wu<|Wq<|Wb<|Wq<|qW 35 39 rfl<|qJ rfl rfl ty26 ty38 (by omega)<|Od rfl rfl (Lg rfl rfl ty38 rfl htk)<|qB rfl ty38<|qS rfl ty38 (Sl rfl) rfl<|Nl<|Wb ?_
  by_cases ha:o.asn=asn
  ·have g2:(o.asn != asn)=false:=by simp [ha]
   rw [if_neg (by simpa using ha)] at hI
   refine Wq<|qW 43 48 rfl<|qF rfl ty38 rfl<|qL rfl ty3 rfl<|qM rfl<|qN rfl<|qA rfl<|Nl<|Wo rfl ‹_› ?_
   cases hcv:cvP o.p p with
   | false =>
    rw [hcv] at h1
    rw [if_pos hcv] at hI
    refine Wq<|qW 52 58 rfl<|qF rfl ty38 rfl<|qG rfl ty36 rfl (Tl rfl)<|qG rfl ty36 rfl (Tl rfl)<|qY rfl (h1) fok32 rfl<|qO rfl<|qA rfl<|Nl<|Wt rfl rfl ?_
    by_cases he:e=11
    ·have g3:(e == 11)=true:=by simp [he]
     rw [if_pos he] at hI
     refine Wq<|qW 62 64 rfl<|qM rfl<|qE rfl<|Nl<|Wt rfl ‹_›<|qW 68 69 rfl<|qA rfl<|Nl<|qW 93 95 rfl<|qZ rfl (iW _ (by omega))<|qM rfl<|Nl ?_
     rw [hkk]
     refine WL.renameL [(0,0)] 1 (by decide) ?_ ?_ (ihA ((k + 1),7) (show l.length - (k + 1) < l.length - k from by omega) (show (k + 1)≤l.length∧prmK cvP p asn 11 7 9 (l.drop (k + 1)) 7=R from ⟨by omega,hI⟩))
     ·exact lC (lR rfl) (lC (lR rfl) (lC (lR rfl) (lC (lI rfl) (lC (lR rfl) (lC (lR rfl) lN)))))
     ·exact aU (kR rfl) aM
    ·have g3:(e == 11)=false:=by simp [he]
     rw [if_neg he] at hI
     refine Wq<|qW 62 64 rfl<|qM rfl<|qE rfl<|Nl<|Wo rfl ‹_›<|Wu<|qW 93 95 rfl<|qZ rfl (iW _ (by omega))<|qM rfl<|Nl ?_
     rw [hkk]
     refine WL.renameL [(0,0)] 1 (by decide) ?_ ?_ (ihA ((k + 1),e) (show l.length - (k + 1) < l.length - k from by omega) (show (k + 1)≤l.length∧prmK cvP p asn 11 7 9 (l.drop (k + 1)) e=R from ⟨by omega,hI⟩))
     ·exact lC (lR rfl) (lC (lR rfl) (lC (lR rfl) (lC (lI rfl) (lC (lR rfl) (lC (lR rfl) lN)))))
     ·exact aU (kR rfl) aM
   | true =>
    rw [hcv] at h1
    rw [if_neg (by rw [hcv];simp)] at hI
    refine Wq<|qW 52 58 rfl<|qF rfl ty38 rfl<|qG rfl ty36 rfl (Tl rfl)<|qG rfl ty36 rfl (Tl rfl)<|qY rfl (h1) fok32 rfl<|qO rfl<|qA rfl<|Nl<|Wo rfl rfl ?_
    by_cases hm:o.mx < p.len
    ·have g4:decide (p.len > o.mx)=true:=decide_eq_true hm
     rw [if_pos hm] at hI
     refine Wq<|qW 73 79 rfl<|qF rfl ty36 rfl<|qL rfl ty3 rfl<|qF rfl ty38 rfl<|qL rfl ty3 rfl<|qGt rfl<|qA rfl<|Nl<|Wt rfl ‹_›<|qW 83 84 rfl<|qA rfl<|Nl<|qW 93 95 rfl<|qZ rfl (iW _ (by omega))<|qM rfl<|Nl ?_
     rw [hkk]
     refine WL.renameL [(0,0)] 1 (by decide) ?_ ?_ (ihA ((k + 1),9) (show l.length - (k + 1) < l.length - k from by omega) (show (k + 1)≤l.length∧prmK cvP p asn 11 7 9 (l.drop (k + 1)) 9=R from ⟨by omega,hI⟩))
     ·exact lC (lR rfl) (lC (lR rfl) (lC (lR rfl) (lC (lI rfl) (lC (lR rfl) (lC (lR rfl) lN)))))
     ·exact aU (kR rfl) aM
    ·have g4:decide (p.len > o.mx)=false:=decide_eq_false hm
     rw [if_neg hm] at hI
     refine Wq<|qW 73 79 rfl<|qF rfl ty36 rfl<|qL rfl ty3 rfl<|qF rfl ty38 rfl<|qL rfl ty3 rfl<|qGt rfl<|qA rfl<|Nl<|Wo rfl ‹_›<|Wq<|qW 88 89 rfl<|qA rfl<|Nl<|Wz ⟨.inl rfl,_,mt,(Rc (Rt0 rfl) Rv),aM,?_⟩
     exact ⟨by rw [← hI];rfl,rfl⟩
  ·have g2:(o.asn != asn)=true:=by simp [ha]
   rw [if_pos (by simpa using ha)] at hI
   refine Wq<|qW 43 48 rfl<|qF rfl ty38 rfl<|qL rfl ty3 rfl<|qM rfl<|qN rfl<|qA rfl<|Nl<|Wt rfl ‹_›<|Wu<|qW 93 95 rfl<|qZ rfl (iW _ (by omega))<|qM rfl<|Nl ?_
   rw [hkk]
   refine WL.renameL [(0,0)] 1 (by decide) ?_ ?_ (ihA ((k + 1),e) (show l.length - (k + 1) < l.length - k from by omega) (show (k + 1)≤l.length∧prmK cvP p asn 11 7 9 (l.drop (k + 1)) e=R from ⟨by omega,hI⟩))
   ·exact lC (lR rfl) (lC (lR rfl) (lC (lR rfl) (lC (lI rfl) (lC (lR rfl) (lC (lR rfl) lN)))))
   ·exact aU (kR rfl) aM
 ·have g1:decide ((k:Int) < (l.length:Int))=false:=decide_eq_false (by omega)
  rw [List.drop_of_length_le (by omega)] at hI
  unfold prmK at hI
  refine Wq<|qW 30 31 rfl<|qK rfl<|Nl<|Wq<|Wo rfl ‹_›<|Wx<|Wq<|qW 99 101 rfl<|qM rfl<|qA rfl<|Nl<|Wz ⟨.inl rfl,_,mt,(Rc (Rt0 rfl) Rv),aM,?_⟩
  exact ⟨by rw [← hI];rfl,rfl⟩
end Go.Proofs.YtndbhhgmpjjjhaaGreatDoor
