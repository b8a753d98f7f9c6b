/-
  Slices that know the type of their cells: made, grown, cut; their bytes as a string. Maps to true, as lists of keys: made, asked, written. Maps, and slices that know the type of their cells, carried out. What is known of the program: the evaluator for it. The longer way of the sort, at 13 to 15 objects: the same objects, as many.
-/
import Derived.Test.YtbfnfgpjgdbmeaaGreatDoorVw
import Derived.Test.YtbfnfgpjgdbmeaaGreatDoorMab
import Derived.Lib.UnsafeStr
import Derived.Test.YtbfnfgpjgdbmeaaGreatDoorTu
import Derived.Test.YtbfnfgpjgdbmeaaGreatDoorE18
namespace Go.Proofs.YtbfnfgpjgdbmeaaGreatDoor
open Go.RowKit Go.Lib
theorem Rep.oslt_inv {X:Nat→Prop} {w:World} {φ:Em} {v:Value} {r off len sz e:Nat} (h:Rep X w φ v (.oslt r off len sz e)):∃ A cap,v=.slice A len cap∧len≤cap∧((len=0∧cap=0)∨∃ b o,φ r=some (b,o)∧A=some ⟨b,o + off,none⟩∧o + off + cap * sz < bsz w b∧bel w b=e + 1∧o + off=0):=by
 cases h with
 | oslt _ _ _ _ _ b o cap hp hc hs he hz=>exact ⟨_,cap,rfl,hc,.inr ⟨b,o,hp,rfl,hs,he,hz⟩⟩
 | oslt0 A=>exact ⟨A,0,rfl,Nat.le_refl _,.inl ⟨rfl,rfl⟩⟩
theorem bel_of {w:World} {b:Nat} {c:Array Value} {e:TypeId} {f:Nat × Nat} (h:w.heap[b]?=some (.cells c e f)):bel w b=e + 1:=by unfold bel;rw [h]
theorem new_row_rept {X':Nat→Prop} {φ':Em} {w w':World} {c:Array Value} {e f n cap sz:Nat} (hf:φ' f=some (w.heap.size,0)) (hh:w'.heap[w.heap.size]?=some (.cells c e (0,0))) (hc:n≤cap) (hs:cap * sz≤c.size) :
 Rep X' w' φ' (.slice (some ⟨w.heap.size,0,none⟩) n cap) (.oslt f 0 n sz e):=by
 have:=Rep.oslt (X:=X') (w:=w') (φ:=φ') f 0 n sz e w.heap.size 0 cap hf hc (by rw [bsz_of hh];omega) (bel_of hh) rfl
 exact this
section
variable {P:Program} {o:Oper} {E:Operand→Option AV} {H:Hp} {f:Nat} {v a:AV} {t tx:TypeId} {l lx:Lay} {size bytes sx bx:Nat} {zero zx:List AV} {x y:Operand} {e ex sz by' m:Nat} {l':Lay} {z' ns:List AV} {rd:List Nat}
theorem LO.makeNoZeroT {g:FuncId} {fn:Func} {ts ps:Array TypeId} {n:Nat} (ho:o.op=.call { callee:=.value (.func g),args:=#[x],argTypes:=ts }) (hE:E (.func g)=some (.base (.func (.func g) #[] #[]))) (hx:E x=some (.base (.int .i64 (n:Int))))
 (hf : P.funcs[g]? = some fn) (hname : (fn.name == "runtime.NumGoroutine") = false) (hb : fn.body.isNone = true) (hn : Extern.findNext fn = none) (he : Extern.find fn = some (Extern.BytealgMakeNoZero.makeNoZero ps #[t])) (ht : TyOK P t (.sl e) size bytes zero) (hn2 : n ≤ 281474976710656) :
 LO P o E H f [] [f] (.oslt f 0 n 1 e) (up H f (some [])):=by
 refine ⟨fun r hr=>up_ne (by simpa using hr),fun E' K hE' hK X φ w ρ hR hst hff=>?_⟩
 rw [ovr_one]
 have hops:o.op.operands=#[.func g]++#[x]:=by rw [ho];rfl
 have hρ:ρ (.func g)=.func (.func g) #[] #[]:=(hR (.func g) _ ((hE' _ (by rw [hops];simp)).trans hE)).base_eq
 have e1:=(hR x _ ((hE' _ (by rw [hops];simp)).trans hx)).base_eq
 obtain ⟨cs,hrun,hle,_⟩:=run_makeNoZero (P:=P) w ps t e (lay_sl ht) n hn2
 have hcall:(callFunc g #[ρ x]).run P w=.ok (.value (.slice (some ⟨w.heap.size,0,none⟩) n cs.size)) (w.drew.drew.alloc (.cells cs e)):=by
  rw [run_callFunc_extern hf hname hb hn he,e1,hrun];rfl
 obtain ⟨h1,h2,h3,h4,h5⟩:=hst.fresh (w':=w.drew.drew.alloc (.cells cs e)) (c:=cs) (e:=e) (cs:=[]) hff rfl rfl rfl rfl (fun j c hj=>by simp at hj)
 unfold OpW
 have hex:(execOp ρ o).run P w=.ok (.value (.slice (some ⟨w.heap.size,0,none⟩) n cs.size)) (w.drew.drew.alloc (.cells cs e)):=by
  simp only [execOp,ho,resolve,hρ,Deferred.ofValue,Sem.run_bind,Sem.run_pure,Result.andThen_ok,invoke]
  simpa using hcall
 rw [hex]
 exact ⟨_,_,h1,h2,new_row_rept (φ':=fun r=>if r=f then some (w.heap.size,0) else φ r) (X':=fun b=>X b∨b=w.heap.size) h5 (heap_alloc_new w.drew.drew (.cells cs e)) hle (by omega)⟩
theorem LO.append_nilT (ho:o.op=.call { callee:=.builtin .append,args:=#[x,y],argTypes:=#[t,tx] }) (hx:E x=some .nils) (hy:SrcG P E H tx y sz m ns rd) (ht:TyOK P t (.sl e) size bytes zero) (he:TyOK P e l' sz by' z') (h0:0 < sz)
 (hm:m * by'≤140737488355328) (hm2:m≤9223372036854775807) (_hrd:f ∉ rd):LO P o E H f rd [f] (.oslt f 0 m sz e) (up H f (some ns)):=by
 refine ⟨fun r hr=>up_ne (by simpa using hr),fun E' K hE hK X φ w ρ hR hst hf=>?_⟩
 rw [ovr_one]
 have e1:ρ x=.slice none 0 0:=by
  have h:=hR x _ ((hE x (by simp [ho,Op.operands,Call.operands])).trans hx)
  generalize ρ x=u at h
  cases h;rfl
 obtain ⟨news,hs,hnl,hns⟩:=hy X φ K w (ρ y) (fun r hr=>hK r (.inl hr)) hst (fun a ha=>hR y a ((hE y (by simp [ho,Op.operands,Call.operands])).trans ha))
 obtain ⟨i,z,hi,hsz,hby,hz,hzs⟩:=info_of he
 subst hsz
 unfold OpW
 by_cases hm0:m=0
 ·subst hm0
  have hns0:ns=[]:=List.eq_nil_of_length_eq_zero (by rw [← hnl,hs.newsLen];simp)
  have hrun:=run_append_none (P:=P) (ty:=o.type) (lay_sl ht) hi none (ρ y) news hs
  simp only [execOp,ho,resolve,invoke,Go.builtin,Sem.run_bind,Sem.run_pure,Result.andThen_ok,List.map_toArray,List.map_cons,List.map_nil,e1,hrun]
  obtain ⟨h1,h2⟩:=hst.phantom hf
  subst hns0
  exact ⟨X,φ,h1,h2,.oslt0 _ _ _ _ _⟩
 ·have hfc:(Builtin.firstCells i.size 0 (.slice none 0 0)).run P w.drew=.ok ([]:List Value).toArray w.drew:=by simp [Builtin.firstCells]
  have hrun:=run_append_grow_src (P:=P) w t tx o.type e i z (lay_sl ht) hi hz none 0 0 [] hfc (ρ y) m news hs (by omega) (by omega) (growslice_fits (by omega) (by rw [hby];simpa using hm))
  simp only [execOp,ho,resolve,invoke,Go.builtin,Sem.run_bind,Sem.run_pure,Result.andThen_ok,List.map_toArray,List.map_cons,List.map_nil,e1,hrun]
  obtain ⟨h1,h2,h3,h4,h5⟩:=hst.fresh (w':=w.drew.alloc (.cells (([]++news).toArray++Builtin.zeroCells z.cells (grownCap w (0 + m) 0 e - (0 + m))) e)) (cs:=ns) hf rfl rfl rfl rfl (fun j c hj=>by
   obtain ⟨g1,u,g2,g3⟩:=hns j c hj
   have hlt:j < news.length:=(List.getElem?_eq_some_iff.1 g2).1
   exact ⟨g1,u,by simp [Array.getElem?_append,hlt];exact (List.getElem?_eq_some_iff.1 g2).2,g3⟩)
  refine ⟨_,_,h1,h2,?_⟩
  have:=new_row_rept (w':=w.drew.alloc (.cells (([]++news).toArray++Builtin.zeroCells z.cells (grownCap w (0 + m) 0 e - (0 + m))) e)) (φ':=fun r=>if r=f then some (w.heap.size,0) else φ r) (X':=fun b=>X b∨b=w.heap.size) (sz:=i.size) h5 (heap_alloc_new w.drew _) (grownCap_ge w (0 + m) 0 e) (by
   have hge:=grownCap_ge w (0 + m) 0 e
   rw [Array.size_append,size_zeroCells,hzs]
   simp only [List.nil_append,List.size_toArray,hs.newsLen]
   rw [← Nat.add_mul]
   exact Nat.mul_le_mul_right _ (by omega))
  simpa using this
theorem LO.appendT {r off len:Nat} {cs olds:List AV} (ho:o.op=.call { callee:=.builtin .append,args:=#[x,y],argTypes:=#[t,tx] }) (hx:E x=some (.oslt r off len sz e)) (hy:SrcG P E H tx y sz m ns rd) (hH:H r=some cs) (hv:Tk cs off (len * sz) olds)
 (ht:TyOK P t (.sl e) size bytes zero) (he:TyOK P e l' sz by' z') (h0:0 < sz) (hm:(len + m) * by'≤140737488355328) (hm2:len + m≤9223372036854775807) (hrf:r≠f) :
 LO P o E H f rd [f,r] (.oslt f 0 (len + m) sz e) (up (up H r none) f (some (olds++ns))):=by
 refine ⟨fun r' hr'=>by simp at hr';rw [up_ne hr'.1,up_ne hr'.2],fun E' K hE hK X φ w ρ hR hst hf=>?_⟩
 rw [ovr_two]
 have hKr:=(hK r (.inr (by simp))).trans hH
 obtain ⟨A,cap,e1,hc,hcase⟩:=(hR x _ ((hE x (by simp [ho,Op.operands,Call.operands])).trans hx)).oslt_inv
 obtain ⟨news,hs,hnl,hns⟩:=hy X φ K w (ρ y) (fun r hr=>hK r (.inl hr)) hst (fun a ha=>hR y a ((hE y (by simp [ho,Op.operands,Call.operands])).trans ha))
 obtain ⟨i,z,hi,hsz,hby,hz,hzs⟩:=info_of he
 subst hsz
 have hdrop:∀ c:List AV,∀ r' cs',up (up K r none) f (some c) r'=some cs'→up K f (some c) r'=some cs':=by
  intro c r' cs' h
  by_cases h1:r'=f
  ·subst h1;rw [up_at] at h ⊢;exact h
  ·rw [up_ne h1] at h ⊢
   by_cases h2:r'=r
   ·subst h2;rw [up_at] at h;cases h
   ·rwa [up_ne h2] at h
 -- what grows
 have grow:cap < len + m→∀ oldV:List Value,oldV.length=len * i.size→(Builtin.firstCells i.size len (.slice A len cap)).run P w.drew=.ok oldV.toArray w.drew→(∀ (j:Nat) c,olds[j]?=some c→c.one=true∧∃ u,oldV[j]?=some u∧Rep X w φ u c) →
  OpW P o ρ w fun x w'=>∃ X' φ',Nxt K (·=f) X φ w (up (up K r none) f (some (olds++ns))) X' φ' w'∧St X' φ' (up (up K r none) f (some (olds++ns))) w'∧Rep X' w' φ' x (.oslt f 0 (len + m) i.size e):=by
  intro hg oldV hol hfc hos
  have hrun:=run_append_grow_src (P:=P) w t tx o.type e i z (lay_sl ht) hi hz A len cap oldV hfc (ρ y) m news hs hg (by omega) (growslice_fits hg (by rw [hby];exact hm))
  unfold OpW
  simp only [execOp,ho,resolve,invoke,Go.builtin,Sem.run_bind,Sem.run_pure,Result.andThen_ok,List.map_toArray,List.map_cons,List.map_nil,e1,hrun]
  have hoL:oldV.length=olds.length:=by rw [hol,hv.1]
  obtain ⟨h1,h2,h3,h4,h5⟩:=hst.fresh (w':=w.drew.alloc (.cells ((oldV++news).toArray++Builtin.zeroCells z.cells (grownCap w (len + m) cap e - (len + m))) e)) (cs:=olds++ns) hf rfl rfl rfl rfl (fun j c hj=>by
   have hsz2:(oldV++news).toArray.size=oldV.length + news.length:=by simp
   rw [List.getElem?_append] at hj
   split at hj
   ·rename_i hlt
    obtain ⟨g1,u,g2,g3⟩:=hos j c hj
    exact ⟨g1,u,by rw [Array.getElem?_append,if_pos (by omega)];simp only [List.getElem?_toArray];rw [List.getElem?_append,if_pos (by omega)];exact g2,g3⟩
   ·rename_i hge
    obtain ⟨g1,u,g2,g3⟩:=hns _ c hj
    have hlt:j - olds.length < news.length:=(List.getElem?_eq_some_iff.1 g2).1
    exact ⟨g1,u,by rw [Array.getElem?_append,if_pos (by omega)];simp only [List.getElem?_toArray];rw [List.getElem?_append,if_neg (by omega),hoL];exact g2,g3⟩)
  have hcap:=grownCap_ge w (len + m) cap e
  exact ⟨_,_,h1.drop (hdrop _),h2.drop (hdrop _),new_row_rept (φ':=fun r=>if r=f then some (w.heap.size,0) else φ r) (X':=fun b=>X b∨b=w.heap.size) (sz:=i.size) h5 (heap_alloc_new w.drew _) hcap (by
   rw [Array.size_append,size_zeroCells,hzs]
   simp [hs.newsLen,hol]
   rw [← Nat.add_mul,← Nat.add_mul]
   exact Nat.mul_le_mul_right _ (by omega))⟩
 rcases hcase with ⟨h1,h2⟩|⟨b,o',hp,hA,hbz,hbe,hoz⟩
 ·subst h1 h2
  have holds:olds=[]:=List.eq_nil_of_length_eq_zero (by rw [hv.1];simp)
  by_cases hm0:m=0
  ·subst hm0
   have hns0:ns=[]:=List.eq_nil_of_length_eq_zero (by rw [← hnl,hs.newsLen];simp)
   have hrun:=run_append_none (P:=P) (ty:=o.type) (lay_sl ht) hi A (ρ y) news hs
   unfold OpW
   simp only [execOp,ho,resolve,invoke,Go.builtin,Sem.run_bind,Sem.run_pure,Result.andThen_ok,List.map_toArray,List.map_cons,List.map_nil,e1,hrun]
   obtain ⟨h1,h2⟩:=hst.phantom hf
   subst hns0 holds
   exact ⟨X,φ,h1.drop (hdrop _),h2.drop (hdrop _),.oslt0 _ _ _ _ _⟩
  ·refine grow (by omega) [] (by simp) (by cases A<;>simp [Builtin.firstCells,loadCells,loadCellsFrom]) fun j c hj=>?_
   rw [holds] at hj
   simp at hj
 ·obtain ⟨c,el,hX,hh,hcs⟩:=hst.cells hKr hp (by omega)
  have hel:el=e:=by rw [bel_of hh] at hbe;exact Nat.succ.inj hbe
  subst hel
  rw [bsz_of hh] at hbz
  by_cases hroom:len + m≤cap
  ·have hmul:len * i.size + m * i.size≤cap * i.size:=by rw [← Nat.add_mul];exact Nat.mul_le_mul_right _ hroom
   have hfit:o' + off + len * i.size + news.length≤c.size:=by rw [hs.newsLen];omega
   subst hA
   have hrun:=run_append_room_row (P:=P) (ty:=o.type) (lay_sl ht) hi b (o' + off) len cap (ρ y) m news hs hroom hh hfit
   unfold OpW
   simp only [execOp,ho,resolve,invoke,Go.builtin,Sem.run_bind,Sem.run_pure,Result.andThen_ok,List.map_toArray,List.map_cons,List.map_nil,e1,hrun]
   have hget:=splice_get c.toList news (o' + off + len * i.size)
   generalize hc':(c.toList.take (o' + off + len * i.size)++news++c.toList.drop (o' + off + len * i.size + news.length)).toArray=c' at hrun
   have hc's:c'.size=c.size:=by rw [← hc'];simp;omega
   obtain ⟨h1,h2,h3⟩:=hst.reuse (f:=f) (w':=w.setRow b c') (c':=c') (o':=o' + off) (cs':=olds++ns) hKr hp hh hf rfl rfl rfl (by simp) (fun b' hb'=>setRow_other w b b' c' hb') (setRow_heap w b c c' el (0,0) hh) hc's (fun j d hj=>by
    have hg2:c'[o' + off + j]?=if o' + off + j < o' + off + len * i.size then c[o' + off + j]? else if o' + off + j < o' + off + len * i.size + news.length then news[o' + off + j - (o' + off + len * i.size)]? else c[o' + off + j]?:=by
     rw [← hc']
     have:=hget (o' + off + j) (by simpa using hfit)
     simpa using this
    rw [hg2]
    rw [List.getElem?_append] at hj
    split at hj
    ·rename_i hlt
     obtain ⟨g1,u,g2,g3⟩:=hcs _ d (hv.2 j d hj)
     rw [hv.1] at hlt
     exact ⟨g1,u,by rw [if_pos (by omega),Nat.add_assoc];exact g2,g3⟩
    ·rename_i hge
     obtain ⟨g1,u,g2,g3⟩:=hns _ d hj
     have hlt:j - olds.length < news.length:=(List.getElem?_eq_some_iff.1 g2).1
     rw [hv.1] at hge hlt g2
     exact ⟨g1,u,by rw [if_neg (by omega),if_pos (by omega),show o' + off + j - (o' + off + len * i.size)=j - len * i.size from by omega];exact g2,g3⟩)
   refine ⟨_,_,h1,h2,?_⟩
   have hbz2:bsz (w.setRow b c') b=c.size + 1:=by rw [bsz_of (setRow_heap w b c c' el (0,0) hh),hc's]
   have:=Rep.oslt (X:=X) (w:=w.setRow b c') (φ:=fun x=>if x=f then some (b,o' + off) else φ x) f 0 (len + m) i.size el b (o' + off) cap h3 hroom (by rw [hbz2];omega) (bel_of (setRow_heap w b c c' el (0,0) hh)) (by omega)
   exact this
  ·subst hA
   have holdsAt:∀ (j:Nat) d,olds[j]?=some d→d.one=true∧∃ u,w.cell? ⟨b,o' + off + j,none⟩=some u∧Rep X w φ u d:=fun j d hj=>by
    obtain ⟨g1,u,g2,g3⟩:=hcs _ d (hv.2 j d hj)
    exact ⟨g1,u,by rw [cell_of hh,Nat.add_assoc];exact g2,g3⟩
   refine grow (by omega) ((List.range olds.length).map fun j=>(w.cell? ⟨b,o' + off + j,none⟩).getD undef) (by simp [hv.1]) ?_ fun j d hj=>?_
   ·refine run_firstCells_some (P:=P) w.drew i.size len _ len cap _ (by simp [hv.1]) fun j u hu=>?_
    rw [Addr.add_lit]
    have hlt:j < olds.length:=by have:=(List.getElem?_eq_some_iff.1 hu).1;simpa using this
    obtain ⟨_,u',g2,_⟩:=holdsAt j olds[j] (List.getElem?_eq_getElem hlt)
    simp [hlt,g2] at hu
    show w.cell? _=_
    rw [g2,hu]
   ·obtain ⟨g1,u,g2,g3⟩:=holdsAt j d hj
    have hlt:j < olds.length:=(List.getElem?_eq_some_iff.1 hj).1
    exact ⟨g1,u,by simp [hlt,g2],g3⟩
theorem LO.sliceT {hi:Option Operand} {r off len n:Nat} (ho:o.op=.slice t x none hi none) (hx:E x=some (.oslt r off len sz e)) (hh:Bnd E hi len n) (hn:n≤len) (ht:TyOK P t (.sl e) size bytes zero) (he:TyOK P e l' sz by' z') :
 LO P o E H f [] [] (.oslt r off n sz e) H :=
 .pure fun X φ w ρ hR=>by
  obtain ⟨A,cap,e1,hc,hcase⟩:=(hR x (by simp [ho,Op.operands]) _ hx).oslt_inv
  have hh':=bnd_val (ρ:=ρ) hh fun y hy a ha=>hR y (by simp [ho,Op.operands,hy]) a ha
  have hrun:=run_slice (A:=A) (w:=w) (ρ:=ρ) (lo:=none) (m:=0) (n:=n) ht he (.inl ⟨rfl,rfl⟩) hh' (Nat.zero_le _) hn hc
  simp only [Option.map_none] at hrun
  refine ⟨_,by simp only [execOp,ho,e1,Sem.run_bind,Option.map_none,hrun,Result.andThen_ok,Sem.run_pure];try rfl,?_⟩
  rcases hcase with ⟨h1,h2⟩|⟨b,o',hp,rfl,hs,hbe,hoz⟩
  ·have e3:n - 0=0:=by omega
   have e4:cap - 0=0:=by omega
   have e5:n=0:=by omega
   rw [e3,e4,e5]
   exact .oslt0 _ _ _ _ _
  ·by_cases hcm:cap=0
   ·have e3:n - 0=0:=by omega
    have e4:cap - 0=0:=by omega
    have e5:n=0:=by omega
    rw [e3,e4,e5]
    exact .oslt0 _ _ _ _ _
   ·rw [if_neg hcm]
    simp only [Option.map_some,Addr.add_lit,Nat.zero_mul,Nat.add_zero,Nat.sub_zero]
    exact .oslt r _ _ sz e b o' _ hp (by omega) hs hbe hoz
theorem LO.sliceData {r off len:Nat} {ts:Array TypeId} (ho:o.op=.call { callee:=.builtin .unsafeSliceData,args:=#[x],argTypes:=ts }) (hx:E x=some (.oslt r off len sz e)) (hl:0 < len) (_hz:0 < sz):LO P o E H f [] [] (.ownt r off e) H :=
 .pure fun X φ w ρ hR=>by
  obtain ⟨A,cap,e1,hc,hcase⟩:=(hR x (by simp [ho,Op.operands,Call.operands]) _ hx).oslt_inv
  rcases hcase with ⟨h1,h2⟩|⟨b,o',hp,rfl,hs,hbe,hoz⟩
  ·omega
  ·have hrun:=run_unsafeSliceData_row (P:=P) (w:=w) ts o.type ⟨b,o' + off,none⟩ len cap (by omega)
   exact ⟨_,by simp only [execOp,ho,resolve,invoke,Go.builtin,Sem.run_bind,Sem.run_pure,Result.andThen_ok,List.map_toArray,List.map_cons,List.map_nil,e1,hrun],.ownt r off e b o' hp (by omega) hbe hoz⟩
theorem St.lose {X:Nat→Prop} {φ:Em} {w:World} {K:Hp} {r b o:Nat} {cs:List AV} {w':World} {f:Nat} (hst:St X φ K w) (hr:K r=some cs) (hp:φ r=some (b,o))
 (hos:w'.os=w.os) (htp:w'.tape=w.tape) (hout:w'.output=w.output) (hsz:w'.heap.size=w.heap.size) (hoth:∀ b',b'≠b→w'.heap[b']?=w.heap[b']?) (hbz:bst w' b=bst w b) :
 Nxt K (·=f) X φ w (up K r none) X φ w'∧St X φ (up K r none) w':=by
 obtain ⟨hX,hB0⟩:=hst.blk hr hp
 have hbs:∀ b',bst w' b'=bst w b':=by
  intro b'
  by_cases h:b'=b
  ·subst h;exact hbz
  ·exact bsz_same (hoth b' h)
 have hkeep:∀ v a,Rep X w φ v a→Rep X w' φ v a:=fun v a h =>
  h.keep (Nat.le_of_eq hsz.symm) (fun b' _ hx=>hoth b' (fun e=>hx (e ▸ hX))) (fun b' _=>hbs b') (fun _ _ h=>h) (fun _ _ h=>h)
 have hlv:∀ r' cs1,up K r none r'=some cs1→r'≠r∧K r'=some cs1:=by
  intro r' cs1 h
  by_cases hrr:r'=r
  ·subst hrr;rw [up_at] at h;cases h
  ·rw [up_ne hrr] at h;exact ⟨hrr,h⟩
 refine ⟨⟨hos,htp,hout,Nat.le_of_eq hsz.symm,fun b' _ hn=>hoth b' (fun e=>hn r cs o hr (by rw [hp,e])),fun b' _=>hbs b',fun _ _ h=>h,fun _ _ h=>.inl h,fun _ _=>rfl,fun r' cs1 b' o' h1 h2=>?_⟩,⟨fun r' cs1 h1=>?_,fun r1 r2 c1 c2 b' o1 o2 h1 h2 h3 h4=>?_,hst.gl.keep (Nat.le_of_eq hsz.symm) (fun b' _ hx=>hoth b' (fun e=>hx (e ▸ hX))) (fun _ _ h=>h)⟩⟩
 ·exact .inr ⟨r',cs1,o',(hlv r' cs1 h1).2,h2⟩
 ·obtain ⟨hrr,h1⟩:=hlv r' cs1 h1
  obtain hn|⟨b',o',h2,h3,h4⟩:=hst.1 r' cs1 h1
  ·exact .inl hn
  ·have hne:b'≠b:=fun e=>hrr (hst.2 r' r cs1 cs b' o' o h1 hr h2 (by rw [hp,e]))
   exact .inr ⟨b',o',h2,h3,h4.keep (hoth b' hne) hkeep⟩
 ·exact hst.2 r1 r2 c1 c2 b' o1 o2 (hlv r1 c1 h1).2 (hlv r2 c2 h2).2 h3 h4
theorem LO.unsafeStr {r off:Nat} {cs vs:List AV} {xs:List UInt8} {pt it:TypeId} (ho:o.op=.call { callee:=.builtin .unsafeString,args:=#[x,y],argTypes:=#[pt,it] }) (hx:E x=some (.ownt r off e)) (hy:E y=some (.base (.int .i64 (xs.length:Int)))) (hH:H r=some cs) (hv:Tk cs off xs.length vs) (hvx:vs=xs.map fun b=>.base (.int .u8 (b.toNat:Int)))
 (hp:P.underlying pt=some (.pointer e)) (hc:P.cellsOf e=1) (h0:xs≠[]) (hm:xs.length≤9223372036854775807) :
 LO P o E H f [] [r] (.base (.string ⟨xs.toArray⟩)) (up H r none):=by
 refine ⟨fun r' hr'=>up_ne (by simpa using hr'),fun E' K hE hK X φ w ρ hR hst hf=>?_⟩
 rw [ovr_one]
 have hKr:=(hK r (.inr (by simp))).trans hH
 have e2:=(hR y _ ((hE y (by simp [ho,Op.operands,Call.operands])).trans hy)).base_eq
 have h1:=hR x _ ((hE x (by simp [ho,Op.operands,Call.operands])).trans hx)
 generalize hu:ρ x=u at h1
 cases h1 with
 | ownt _ _ _ b o' hpb hb0 hbe hoz =>
  obtain ⟨c,el,hX,hh,hcs⟩:=hst.cells hKr hpb hb0
  have hel:el=e:=by rw [bel_of hh] at hbe;exact Nat.succ.inj hbe
  subst hel
  have hcell:∀ j z,xs[j]?=some z→w.cell? ⟨b,j,none⟩=some (.int .u8 z.toNat):=fun j z hj=>by
   have hat:vs[j]?=some (.base (.int .u8 (z.toNat:Int))):=by rw [hvx,List.getElem?_map,hj];rfl
   obtain ⟨_,u,hu2,hr⟩:=hcs _ _ (hv.2 j _ hat)
   rw [cell_of hh]
   rw [← Nat.add_assoc,hoz,Nat.zero_add] at hu2
   rw [hu2,hr.base_eq]
  have hlen:xs.length≤c.size:=by
   rcases Nat.eq_zero_or_pos xs.length with h|h
   ·omega
   ·have:=hcell (xs.length - 1) xs[xs.length - 1] (List.getElem?_eq_getElem (by omega))
    rw [cell_of hh] at this
    have:=(Array.getElem?_eq_some_iff.1 this).1
    omega
  have hsh:w.shape? b=some (el,c.size):=by simp [World.shape?,hh]
  have hrun:=run_unsafeString_row (P:=P) (w:=w) pt it o.type el hp hc b c.size hsh xs h0 hlen hm fun j z hj=>by rw [Addr.add_lit,Nat.zero_add];exact hcell j z hj
  have hfz:(w.freeze ⟨b,0,none⟩ xs.length).heap[b]?=some (.cells c el (0,xs.length)):=by
   have hl:xs.length≠0:=by simpa using h0
   simp [World.freeze,hl,Array.getElem?_modify,hh]
  obtain ⟨k1,k2⟩:=hst.lose (f:=f) (w':=w.freeze ⟨b,0,none⟩ xs.length) hKr hpb (by unfold World.freeze;split<;>rfl) (by unfold World.freeze;split<;>rfl) (by unfold World.freeze;split<;>rfl) (by unfold World.freeze;split<;>simp) (fun b' hb'=>by
   unfold World.freeze
   split
   ·rfl
   ·simp only [Array.getElem?_modify]
    rw [if_neg (fun e=>hb' e.symm)]) (by unfold bst;rw [bel_of hfz,bel_of hh];unfold bsz;rw [hfz,hh])
  rw [hoz] at hu
  unfold OpW
  simp only [execOp,ho,resolve,invoke,Go.builtin,Sem.run_bind,Sem.run_pure,Result.andThen_ok,List.map_toArray,List.map_cons,List.map_nil,hu,e2,hrun]
  exact ⟨X,φ,k1,k2,.base _⟩
end
end Go.Proofs.YtbfnfgpjgdbmeaaGreatDoor
namespace Go.Proofs.YtbfnfgpjgdbmeaaGreatDoor
open Go.RowKit
def baseEq:Value→Value→Option Bool
 | .int k a,.int k' b=>match kEq k k' with
  | true=>some (decide (a=b))
  | false=>none
 | .bool a,.bool b=>some (decide (a=b))
 | .string ⟨⟨a⟩⟩,.string ⟨⟨b⟩⟩=>some (beqL a b)
 | _,_=>none
theorem baseEq_ok {a b:Value} {r:Bool} (h:baseEq a b=some r):r=true↔a=b:=by
 unfold baseEq at h
 split at h<;>first|(cases h;done)|skip
 ·split at h<;>first|(cases h;done)|skip
  rename_i hk
  have:=of_decide_eq_true hk
  subst this
  injection h with h
  subst h
  simp
 ·injection h with h
  subst h
  simp
 ·injection h with h
  subst h
  rw [beqL_eq]
  simp
def aggEq:List Value→List Value→Option Bool
 | [],[]=>some true
 | x::xs,y::ys=>match baseEq x y with
  | some true=>aggEq xs ys
  | some false=>some false
  | none=>none
 | _,_=>none
theorem aggEq_ok:∀ {a b:List Value} {r:Bool},aggEq a b=some r→(r=true↔a=b):=by
 intro a
 induction a with
 | nil =>
  intro b r h
  cases b with
  | nil=>injection h with h;subst h;simp
  | cons y ys=>cases h
 | cons x xs ih =>
  intro b r h
  cases b with
  | nil=>cases h
  | cons y ys =>
   unfold aggEq at h
   split at h<;>first|(cases h;done)|skip
   ·rename_i hb
    have:=(baseEq_ok hb).1 rfl
    subst this
    rw [ih h]
    simp
   ·rename_i hb
    injection h with h
    subst h
    have:x≠y:=fun e=>by have:=(baseEq_ok hb).2 e;cases this
    simp [this]
def valEq:Value→Value→Option Bool
 | .agg ⟨a⟩,.agg ⟨b⟩=>aggEq a b
 | a,b=>baseEq a b
theorem valEq_ok {a b:Value} {r:Bool} (h:valEq a b=some r):r=true↔a=b:=by
 unfold valEq at h
 split at h
 ·rw [aggEq_ok h];simp
 ·exact baseEq_ok h
def memV:List Value→Value→Option Bool
 | [],_=>some false
 | k::ks,v=>match valEq k v with
  | some true=>some true
  | some false=>memV ks v
  | none=>none
theorem memV_ok:∀ {ks:List Value} {v:Value} {r:Bool},memV ks v=some r→(r=true↔v∈ks):=by
 intro ks
 induction ks with
 | nil=>intro v r h;injection h with h;subst h;simp
 | cons k ks ih =>
  intro v r h
  unfold memV at h
  split at h<;>first|(cases h;done)|skip
  ·rename_i hb
   have:=(valEq_ok hb).1 rfl
   subst this
   injection h with h;subst h
   simp
  ·rename_i hb
   have hne:v≠k:=fun e=>by have:=(valEq_ok hb).2 e.symm;cases this
   rw [ih h]
   simp [hne]
def baseV:AV→Option Value
 | .base v=>some v
 | _=>none
def keyV:AV→Option Value
 | .base v=>some v
 | .agg cs=>match mapOO baseV cs with
  | some vs=>some (.agg ⟨vs⟩)
  | none=>none
 | _=>none
theorem keyV_ok {a:AV} {v:Value} (h:keyV a=some v):KV a v:=by
 unfold keyV at h
 split at h<;>first|(cases h;done)|skip
 ·injection h with h;subst h;exact KV.base _
 ·rename_i cs
  split at h<;>first|(cases h;done)|skip
  rename_i vs hvs
  injection h with h;subst h
  have h1:=mapOO_ok hvs
  have h2:cs=vs.map .base:=by
   clear hvs
   induction cs generalizing vs with
   | nil=>cases vs with
    | nil=>rfl
    | cons=>simp at h1
   | cons c cs ih=>cases vs with
    | nil=>simp at h1
    | cons x vs =>
     simp only [List.map_cons,List.cons.injEq] at h1
     have hc:c=.base x:=by
      have h0:=h1.1
      unfold baseV at h0
      split at h0
      ·injection h0 with h0;rw [h0]
      ·cases h0
     rw [hc,ih vs h1.2];rfl
  rw [h2]
  exact KV.agg vs
theorem mpkF_nil:mpkF []=fun _=>none:=by funext v;simp [mpkF]
theorem mpkF_in {ks:List Value} {v:Value} (h:v∈ks):mpkF ks v=some (.bool true):=by simp [mpkF,h]
theorem mpkF_out {ks:List Value} {v:Value} (h:v ∉ ks):mpkF ks v=none:=by simp [mpkF,h]
section
variable {P:Program} {o:Oper} {E:Operand→Option AV} {H:Hp} {f:Nat} {a:AV} {t:TypeId} {kt et size bytes r:Nat} {zero:List AV} {x y z:Operand} {k:Nat} {ks:List Value} {key:Value}
theorem St.mapk {X:Nat→Prop} {φ:Em} {w:World} {K:Hp} {b o:Nat} (hst:St X φ K w) (hr:K r=some [.mpk k ks]) (hp:φ r=some (b,o)):∃ es clock,w.heap[b]?=some (.map es clock)∧MOk (kdX k) (mpkF ks) es:=by
 obtain ⟨_,hB⟩:=hst.blk hr hp
 cases hB with
 | cells c e hh h=>have:=(h 0 _ rfl).1;cases this
 | map es cl kd' m' hc hh h =>
  injection hc with hc _
  cases hc
 | mapl es cl kd' ks' vs' hc hh h =>
  injection hc with _ hc
  cases hc
 | mapa es cl kd' ks' as_ hc hh h =>
  injection hc with hc _
  cases hc
 | mapk es cl k' ks' hc hh h =>
  injection hc with hc _
  injection hc with h1 h2
  subst h1 h2
  exact ⟨es,cl,hh,h⟩
theorem LO.makeMapK (k:Nat) (ho:o.op=.makeMap t none):LO P o E H f [] [f] (.mref f) (up H f (some [.mpk k []])):=by
 refine ⟨fun r hr=>up_ne (by simpa using hr),fun E' K hE hK X φ w ρ hR hst hf=>?_⟩
 rw [ovr_one]
 have hrun:(execOp ρ o).run P w=.ok (.value (.map (some w.heap.size))) (w.alloc (.map #[] 0)):=by
  simp [execOp,ho,Instr.makeMap,newObj,Sem.run,Pure.pure]
 unfold OpW
 rw [hrun]
 obtain ⟨h1,h2,h3,h4⟩:=hst.freshB (cs:=[.mpk k []]) (w':=w.alloc (.map #[] 0)) (ob:=.map #[] 0) hf rfl rfl rfl rfl fun hk=>.mapk #[] 0 k _ rfl (heap_alloc_new w _) (by rw [mpkF_nil];exact MOk.empty)
 exact ⟨_,_,h1,h2,.mref f w.heap.size 0 h4⟩
theorem LO.lookupK {b:Bool} (ho:o.op=.lookup t x y false) (hx:E x=some (.mref r)) (hy:E y=some a) (ha:KV a key) (hH:H r=some [.mpk kt ks]) (ht:TyOK P t (.map kt et) size bytes zero) (hk:MKey P kt (kdX kt)) (hkd:kdX kt key) (hz:∀ w,(Go.zeroValue et).run P w=.ok (.bool false) w)
 (hv:b=true↔key∈ks):LO P o E H f [r] [] (.base (.bool b)) H :=
 .read r fun X φ w ρ K hR hK hst=>by
  obtain ⟨b',o',hp,e1⟩:=(hR x (by simp [ho,Op.operands]) _ hx).mref_inv
  have e2:=ha _ _ _ _ (hR y (by simp [ho,Op.operands]) _ hy)
  obtain ⟨es,cl,hb,hm⟩:=hst.mapk (hK.trans hH) hp
  have:=mlook (lay_map ht) hk hkd hb hm false hz
  have e3:(mpkF ks key).getD (.bool false)=.bool b:=by
   by_cases h:key∈ks
   ·rw [mpkF_in h,hv.2 h];rfl
   ·rw [mpkF_out h]
    cases b with
    | true=>exact absurd (hv.1 rfl) h
    | false=>rfl
  rw [e3] at this
  exact ⟨.bool b,by simp only [execOp,ho,e1,e2,Sem.run_bind,this,Result.andThen_ok,Sem.run_pure];rfl,.base _⟩
theorem LO.mapPutK (ho:o.op=.mapUpdate t x y z) (hx:E x=some (.mref r)) (hy:E y=some a) (ha:KV a key) (hzz:E z=some (.base (.bool true))) (hH:H r=some [.mpk kt ks]) (ht:TyOK P t (.map kt et) size bytes zero) (hk:MKey P kt (kdX kt)) (hkd:kdX kt key) :
 LO P o E H f [] [r] (.base undef) (up H r (some [.mpk kt (key::ks)])):=by
 have hops:o.op.operands=#[x,y,z]:=by rw [ho];rfl
 refine ⟨fun r' hr'=>up_ne (by simpa using hr'),fun E' K hE hK X φ w ρ hR hst hf=>?_⟩
 rw [ovr_one]
 obtain ⟨b,o',hp,e1⟩:=(hR x _ ((hE x (by rw [hops];simp)).trans hx)).mref_inv
 have e2:=ha _ _ _ _ (hR y _ ((hE y (by rw [hops];simp)).trans hy))
 have e3:=(hR z _ ((hE z (by rw [hops];simp)).trans hzz)).base_eq
 have hKr:K r=some [.mpk kt ks]:=(hK r (.inr (by simp))).trans hH
 obtain ⟨es,cl,hb,hm⟩:=hst.mapk hKr hp
 have hg:=MapKept.run_getObj_map (P:=P) hb
 have hst':∀ ob:Obj,(setObj b ob).run P w=.ok () { w with heap:=w.heap.setIfInBounds b ob }:=fun ob=>MapKept.run_setObj_map ob hb
 have hblt:b < w.heap.size:=(Array.getElem?_eq_some_iff.1 hb).1
 have hkeys:∀ e,e∈es.toList→kdX kt e.key:=fun e he=>by
  obtain ⟨i,hi⟩:=List.getElem?_of_mem he
  exact hm.keys i e (by simpa using hi)
 have h1:mpkF (key::ks) key=some (.bool true):=mpkF_in (by simp)
 have h2:∀ y,kdX kt y→y≠key→mpkF (key::ks) y=mpkF ks y:=fun y _ hy=>by
  by_cases h:y∈ks
  ·rw [mpkF_in h,mpkF_in (List.mem_cons_of_mem _ h)]
  ·rw [mpkF_out h,mpkF_out (by simp [h,hy])]
 have fin:∀ es' cl',MOk (kdX kt) (mpkF (key::ks)) es'→(Instr.mapUpdate t (.map (some b)) key (.bool true)).run P w=.ok () { w with heap:=w.heap.setIfInBounds b (.map es' cl') } →
  OpW P o ρ w fun x w'=>∃ X' φ',Nxt K (·=f) X φ w (up K r (some [.mpk kt (key::ks)])) X' φ' w'∧St X' φ' (up K r (some [.mpk kt (key::ks)])) w'∧Rep X' w' φ' x (.base undef):=fun es' cl' hm' hrun=>by
  have hb':({ w with heap:=w.heap.setIfInBounds b (.map es' cl') }:World).heap[b]?=some (.map es' cl'):=by simp [hblt]
  obtain ⟨g1,g2,g3⟩:=hst.putB (f:=f) (cs':=[.mpk kt (key::ks)]) (w':={ w with heap:=w.heap.setIfInBounds b (.map es' cl') }) hKr hp rfl rfl rfl (by simp) (fun b' hb'=>by simp [Ne.symm hb']) (by unfold bst bsz bel;rw [hb',hb]) fun _=>.mapk es' cl' kt _ rfl hb' hm'
  unfold OpW
  have:(execOp ρ o).run P w=.ok .skip { w with heap:=w.heap.setIfInBounds b (.map es' cl') }:=by
   simp only [execOp,ho,e1,e2,e3,Sem.run_bind,hrun,Result.andThen_ok,Sem.run_pure]
  rw [this]
  exact ⟨X,φ,g1,g2,.base _⟩
 rcases hk.find w key hkd es.toList hkeys with ⟨f1,f2⟩|⟨j,e,f1,f2,f3⟩
 ·refine fin _ (cl + 1) (hm.push (born:=cl) hkd (fun i e hi=>f2 e (List.mem_of_getElem? (by simpa using hi))) h1 h2) ?_
  simp [Instr.mapUpdate,run_underlying (lay_map ht),hg,hk.check w _ key hkd,f1]
  rw [hst']
 ·have hj:es[j]?=some e:=by simpa using f2
  refine fin _ cl (hm.modify (j:=j) hkd hj f3 h1 h2) ?_
  simp [Instr.mapUpdate,run_underlying (lay_map ht),hg,hk.check w _ key hkd,f1,hj,f3,hk.stays w key hkd]
  rw [hst']
end
theorem Tryz.laidE:laidOutB Tryz.prog=true:=by kernel_rfl
theorem mkX_int:MKey Tryz.prog 3 (kdX 3):=mk_int Tryz.underlying3
theorem mkX_str:MKey Tryz.prog 9 (kdX 9):=mk_str Tryz.underlying9
theorem mkX_mac:MKey Tryz.prog 96 (kdX 96):=mk_agg Tryz.laidE (of_decide_eq_true (by kernel_rfl)) (by kernel_rfl) (by kernel_rfl)
theorem mkX_ad:MKey Tryz.prog 36 (kdX 36):=mk_agg Tryz.laidE (of_decide_eq_true (by kernel_rfl)) (by kernel_rfl) (by kernel_rfl)
def keyT (k:Nat):Bool:=Nat.beq k 3 || Nat.beq k 9 || Nat.beq k 96 || Nat.beq k 36
theorem keyT_ok {k:Nat} (h:keyT k=true):MKey Tryz.prog k (kdX k):=by
 unfold keyT at h
 simp only [Bool.or_eq_true] at h
 rcases h with ((h|h)|h)|h<;>have:=Nat.eq_of_beq_eq_true h<;>subst this
 ·exact mkX_int
 ·exact mkX_str
 ·exact mkX_mac
 ·exact mkX_ad
noncomputable def kdB (k:Nat) (v:Value):Bool:=match Go.keyOf Tryz.prog k v with
 | some _=>true
 | none=>false
theorem kdB_ok {k:Nat} {v:Value} (h:kdB k v=true):kdX k v:=by
 unfold kdB at h
 split at h
 ·rename_i l hl;exact ⟨l,hl⟩
 ·cases h
theorem zbool:∀ w,(Go.zeroValue 4).run Tryz.prog w=.ok (.bool false) w:=zero_of (by kernel_rfl)
theorem cells_u8:Tryz.prog.cellsOf 5=1:=by kernel_rfl
section
variable (o:Oper) (E:Operand→Option AV) (L:HL) (N:Nat)
noncomputable def eMakeMap (t:TypeId):Option Res:=match tysT.tab t with
 | some (.map k _,_,_,_)=>some ⟨[],[N],.mref N,(N,[.mpk k []])::L⟩
 | _=>none
theorem eMakeMap_ok {t:TypeId} {R:Res} (ho:o.op=.makeMap t none) (h:eMakeMap L N t=some R):LO Tryz.prog o E (lkH L) N R.rd R.wr R.v (lkH R.L):=by
 unfold eMakeMap at h
 split at h<;>first|(cases h;done)|skip
 injection h with h;subst h
 rw [lk_cons]
 exact LO.makeMapK _ ho
noncomputable def eLookup (t:TypeId) (x y:Operand):Option Res:=match E x,E y with
 | some (.mref r),some a=>match lkH L r,tysT.tab t with
  | some [.mpk k ks],some (.map k' e,_,_,_)=>match keyV a with
   | some key=>match Nat.beq k' k && keyT k && Nat.beq e 4 && kdB k key with
    | true=>match memV ks key with
     | some b=>some ⟨[r],[],.base (.bool b),L⟩
     | none=>none
    | false=>none
   | none=>none
  | _,_=>none
 | _,_=>none
theorem eLookup_ok {t:TypeId} {x y:Operand} {R:Res} (ho:o.op=.lookup t x y false) (h:eLookup E L t x y=some R):LO Tryz.prog o E (lkH L) N R.rd R.wr R.v (lkH R.L):=by
 unfold eLookup at h
 split at h<;>first|(cases h;done)|skip
 rename_i r a hx hy
 split at h<;>first|(cases h;done)|skip
 rename_i k ks k' e s b0 z hl ht
 split at h<;>first|(cases h;done)|skip
 rename_i key hkey
 split at h<;>first|(cases h;done)|skip
 rename_i hg
 simp only [Bool.and_eq_true] at hg
 have e1:=Nat.eq_of_beq_eq_true hg.1.1.1
 have e2:=Nat.eq_of_beq_eq_true hg.1.2
 subst e1 e2
 split at h<;>first|(cases h;done)|skip
 rename_i b hb
 injection h with h;subst h
 exact LO.lookupK ho hx hy (keyV_ok hkey) hl (tysT.ok _ _ _ _ _ ht) (keyT_ok hg.1.1.2) (kdB_ok hg.2) zbool (memV_ok hb)
noncomputable def eMapPut (t:TypeId) (x y z:Operand):Option Res:=match E x,E y,E z with
 | some (.mref r),some a,some (.base (.bool true))=>match lkH L r,tysT.tab t with
  | some [.mpk k ks],some (.map k' _,_,_,_)=>match keyV a with
   | some key=>match Nat.beq k' k && keyT k && kdB k key with
    | true=>some ⟨[],[r],.base undef,putH L r [.mpk k (key::ks)]⟩
    | false=>none
   | none=>none
  | _,_=>none
 | _,_,_=>none
theorem eMapPut_ok {t:TypeId} {x y z:Operand} {R:Res} (ho:o.op=.mapUpdate t x y z) (h:eMapPut E L t x y z=some R):LO Tryz.prog o E (lkH L) N R.rd R.wr R.v (lkH R.L):=by
 unfold eMapPut at h
 split at h<;>first|(cases h;done)|skip
 rename_i r a hx hy hz
 split at h<;>first|(cases h;done)|skip
 rename_i k ks k' e s b0 z hl ht
 split at h<;>first|(cases h;done)|skip
 rename_i key hkey
 split at h<;>first|(cases h;done)|skip
 rename_i hg
 simp only [Bool.and_eq_true] at hg
 have e1:=Nat.eq_of_beq_eq_true hg.1.1
 subst e1
 injection h with h;subst h
 simp only [lk_put]
 exact LO.mapPutK ho hx hy (keyV_ok hkey) hz hl (tysT.ok _ _ _ _ _ ht) (keyT_ok hg.1.2) (kdB_ok hg.2)
noncomputable def eAppendT (t tx:TypeId) (x y:Operand):Option Res:=match tysT.tab t with
 | some (.sl e,_,_,_)=>match Nat.beq e 5 with
  | true=>match tysT.tab e with
   | some (_,sz,by',_)=>match Nat.blt 0 sz with
    | true=>match srcE tysT E L tx y sz with
     | some (m,ns,rd)=>match E x with
      | some .nils=>match Nat.ble (m * by') 140737488355328 && Nat.ble m 1000000 && !memN rd N with
       | true=>some ⟨rd,[N],.oslt N 0 m sz e,(N,ns)::L⟩
       | false=>none
      | some (.oslt r off len sz' e')=>match lkH L r with
       | some cs=>match Nat.beq sz sz' && Nat.beq e e' && Nat.ble ((len + m) * by') 140737488355328 && Nat.ble (len + m) 1000000 && !Nat.beq r N with
        | true=>match tkE cs off (len * sz) with
         | some olds=>some ⟨rd,[N,r],.oslt N 0 (len + m) sz e,(N,olds++ns)::delH L r⟩
         | none=>none
        | false=>none
       | none=>none
      | _=>none
     | none=>none
    | false=>none
   | none=>none
  | false=>none
 | _=>none
theorem eAppendT_ok {t tx:TypeId} {x y:Operand} {R:Res} (ho:o.op=.call { callee:=.builtin .append,args:=#[x,y],argTypes:=#[t,tx] }) (h:eAppendT E L N t tx x y=some R):LO Tryz.prog o E (lkH L) N R.rd R.wr R.v (lkH R.L):=by
 unfold eAppendT at h
 split at h<;>first|(cases h;done)|skip
 rename_i e s b z ht
 split at h<;>first|(cases h;done)|skip
 split at h<;>first|(cases h;done)|skip
 rename_i l sz by' z' he
 split at h<;>first|(cases h;done)|skip
 rename_i h0
 have h0:0 < sz:=by simpa using h0
 split at h<;>first|(cases h;done)|skip
 rename_i m ns rd hs
 have hs:=srcE_ok tysT E L h0 hs
 split at h<;>first|(cases h;done)|skip
 ·rename_i hx
  split at h<;>first|(cases h;done)|skip
  rename_i hg
  simp only [Bool.and_eq_true,Nat.ble_eq,Bool.not_eq_true'] at hg
  injection h with h;subst h
  rw [lk_cons]
  exact .append_nilT ho hx hs (tysT.ok _ _ _ _ _ ht) (tysT.ok _ _ _ _ _ he) h0 hg.1.1 (by omega) (fun hm=>by rw [memN_iff.2 hm] at hg;cases hg.2)
 ·rename_i r off len sz' e' hx
  split at h<;>first|(cases h;done)|skip
  rename_i cs hl
  split at h<;>first|(cases h;done)|skip
  rename_i hg
  simp only [Bool.and_eq_true,Nat.ble_eq,Bool.not_eq_true'] at hg
  have e1:=Nat.eq_of_beq_eq_true hg.1.1.1.1
  have e2:=Nat.eq_of_beq_eq_true hg.1.1.1.2
  subst e1 e2
  split at h<;>first|(cases h;done)|skip
  rename_i olds hv
  injection h with h;subst h
  rw [lk_cons,lk_del]
  exact .appendT ho hx hs hl (tkE_ok hv) (tysT.ok _ _ _ _ _ ht) (tysT.ok _ _ _ _ _ he) h0 hg.1.1.2 (by omega) (Nat.ne_of_beq_eq_false hg.2)
noncomputable def eSliceT (t:TypeId) (x:Operand) (lo hi:Option Operand):Option Res:=match lo,E x,tysT.tab t with
 | none,some (.oslt r off len sz e),some (.sl e',_,_,_)=>match tysT.tab e' with
  | some (_,sz',_,_)=>match bndE E hi len with
   | some n=>match Nat.beq e e' && Nat.beq sz sz' && Nat.ble n len with
    | true=>some ⟨[],[],.oslt r off n sz e,L⟩
    | false=>none
   | none=>none
  | none=>none
 | _,_,_=>none
theorem eSliceT_ok {t:TypeId} {x:Operand} {lo hi:Option Operand} {R:Res} (ho:o.op=.slice t x lo hi none) (h:eSliceT E L t x lo hi=some R):LO Tryz.prog o E (lkH L) N R.rd R.wr R.v (lkH R.L):=by
 unfold eSliceT at h
 split at h<;>first|(cases h;done)|skip
 rename_i r off len sz e e' s b z hx ht
 split at h<;>first|(cases h;done)|skip
 rename_i l sz' by' z' he
 split at h<;>first|(cases h;done)|skip
 rename_i n hn
 split at h<;>first|(cases h;done)|skip
 rename_i hg
 simp only [Bool.and_eq_true,Nat.ble_eq] at hg
 have e1:=Nat.eq_of_beq_eq_true hg.1.1
 have e2:=Nat.eq_of_beq_eq_true hg.1.2
 subst e1 e2
 injection h with h;subst h
 exact .sliceT ho hx (bndE_ok E hn) hg.2 (tysT.ok _ _ _ _ _ ht) (tysT.ok _ _ _ _ _ he)
def eSliceData (x:Operand):Option Res:=match E x with
 | some (.oslt r off len sz e)=>match Nat.blt 0 len && Nat.blt 0 sz with
  | true=>some ⟨[],[],.ownt r off e,L⟩
  | false=>none
 | _=>none
theorem eSliceData_ok {x:Operand} {ts:Array TypeId} {R:Res} (ho:o.op=.call { callee:=.builtin .unsafeSliceData,args:=#[x],argTypes:=ts }) (h:eSliceData E L x=some R):LO Tryz.prog o E (lkH L) N R.rd R.wr R.v (lkH R.L):=by
 unfold eSliceData at h
 split at h<;>first|(cases h;done)|skip
 rename_i r off len sz e hx
 split at h<;>first|(cases h;done)|skip
 rename_i hg
 simp only [Bool.and_eq_true,Nat.blt_eq] at hg
 injection h with h;subst h
 exact .sliceData ho hx hg.1 hg.2
def u8sE:List AV→Option (List UInt8)
 | []=>some []
 | .base (.int .u8 (.ofNat n))::l=>match Nat.blt n 256,u8sE l with
  | true,some xs=>some (UInt8.ofNat n::xs)
  | _,_=>none
 | _::_=>none
theorem u8sE_ok:∀ {l:List AV} {xs:List UInt8},u8sE l=some xs→l=xs.map fun b=>.base (.int .u8 (b.toNat:Int)):=by
 intro l
 induction l with
 | nil=>intro xs h;injection h with h;subst h;rfl
 | cons a l ih =>
  intro xs h
  unfold u8sE at h
  split at h<;>first|(cases h;done)|skip
  ·rename_i hn;injection hn
  ·rename_i n l2 he
   split at h<;>first|(cases h;done)|skip
   rename_i xs2 hn hxs
   injection h with h;subst h
   injection he with e1 e2
   subst e1 e2
   have hn:n < 256:=by simpa using hn
   rw [ih hxs,List.map_cons]
   congr 3
   rw [UInt8.toNat_ofNat',Nat.mod_eq_of_lt hn]
   rfl
noncomputable def eUnsafeStr (pt:TypeId) (x y:Operand):Option Res:=match E x,eNat E y with
 | some (.ownt r off e),some (.i64,n)=>match lkH L r,tysT.tab pt with
  | some cs,some (.ptr e',_,_,_)=>match Nat.beq e e' && Nat.beq e 5 && Nat.ble n 1000000 && Nat.blt 0 n with
   | true=>match tkE cs off n with
    | some vs=>match u8sE vs with
     | some xs=>match Nat.beq xs.length n with
      | true=>some ⟨[],[r],.base (.string ⟨⟨xs⟩⟩),delH L r⟩
      | false=>none
     | none=>none
    | none=>none
   | false=>none
  | _,_=>none
 | _,_=>none
theorem eUnsafeStr_ok {pt it:TypeId} {x y:Operand} {R:Res} (ho:o.op=.call { callee:=.builtin .unsafeString,args:=#[x,y],argTypes:=#[pt,it] }) (h:eUnsafeStr E L pt x y=some R):LO Tryz.prog o E (lkH L) N R.rd R.wr R.v (lkH R.L):=by
 unfold eUnsafeStr at h
 split at h<;>first|(cases h;done)|skip
 rename_i r off e n hx hy
 split at h<;>first|(cases h;done)|skip
 rename_i cs e' s b z hl ht
 split at h<;>first|(cases h;done)|skip
 rename_i hg
 simp only [Bool.and_eq_true,Nat.ble_eq,Nat.blt_eq] at hg
 have e1:=Nat.eq_of_beq_eq_true hg.1.1.1
 have e2:=Nat.eq_of_beq_eq_true hg.1.1.2
 subst e1
 subst e2
 split at h<;>first|(cases h;done)|skip
 rename_i vs hv
 split at h<;>first|(cases h;done)|skip
 rename_i xs hxs
 split at h<;>first|(cases h;done)|skip
 rename_i hn
 have:=Nat.eq_of_beq_eq_true hn
 subst this
 injection h with h;subst h
 show LO Tryz.prog o E (lkH L) N [] [r] _ (lkH (delH L r))
 rw [lk_del]
 exact LO.unsafeStr (xs:=xs) ho hx (eNat_ok E hy) hl (tkE_ok hv) (u8sE_ok hxs) (lay_ptr (tysT.ok _ _ _ _ _ ht)) cells_u8 (fun h=>by rw [h] at hg;simp at hg) (by omega)
end
def ifsT (t:TypeId):Bool:=Nat.beq t 309
theorem ifsT_ok:∀ t,ifsT t=true→∃ ms,Tryz.prog.underlying t=some (.interface ms):=fun t h=>by
 have:=Nat.eq_of_beq_eq_true h
 subst this
 exact ⟨_,Tryz.underlying309⟩
theorem xIdx:XOK Tryz.prog 403 Extern.BytealgIndexByte.indexByte:=⟨Tryz.f403,Tryz.func403,by kernel_rfl,by kernel_rfl,by kernel_rfl,by kernel_rfl⟩
theorem xCnt:XOK Tryz.prog 355 Extern.BytealgCount.count:=⟨Tryz.f355,Tryz.func355,by kernel_rfl,by kernel_rfl,by kernel_rfl,by kernel_rfl⟩
theorem xEsc:XOK Tryz.prog 346 Extern.AbiNoEscape.same:=⟨Tryz.f346,Tryz.func346,by kernel_rfl,by kernel_rfl,by kernel_rfl,by kernel_rfl⟩
theorem orElse_ok {o:Oper} {E:Operand→Option AV} {L:HL} {N:Nat} {a b:Option Res} (ha:∀ R,a=some R→LO Tryz.prog o E (lkH L) N R.rd R.wr R.v (lkH R.L)) (hb:∀ R,b=some R→LO Tryz.prog o E (lkH L) N R.rd R.wr R.v (lkH R.L)):∀ R,orElse a b=some R→LO Tryz.prog o E (lkH L) N R.rd R.wr R.v (lkH R.L):=by
 intro R h
 unfold orElse at h
 split at h
 ·exact ha R h
 ·exact hb R h
def eMkNz (E:Operand→Option AV) (L:HL) (N:Nat) (g:FuncId) (xs:List Operand):Option Res:=match Nat.beq g 265,funE E g,xs with
 | true,true,[x]=>match eNat E x with
  | some (.i64,n)=>match Nat.ble n 281474976710656 with
   | true=>some ⟨[],[N],.oslt N 0 n 1 5,(N,[])::L⟩
   | false=>none
  | _=>none
 | _,_,_=>none
theorem eMkNz_ok {o:Oper} {E:Operand→Option AV} {L:HL} {N:Nat} {g:FuncId} {xs:Array Operand} {ts:Array TypeId} {R:Res} (ho:o.op=.call { callee:=.value (.func g),args:=xs,argTypes:=ts }) (h:eMkNz E L N g xs.toList=some R):LO Tryz.prog o E (lkH L) N R.rd R.wr R.v (lkH R.L):=by
 obtain ⟨xs⟩:=xs
 unfold eMkNz at h
 split at h<;>first|(cases h;done)|skip
 rename_i x hg hE hxs
 have:=Nat.eq_of_beq_eq_true hg
 subst this
 simp only at hxs
 subst hxs
 split at h<;>first|(cases h;done)|skip
 rename_i n hn
 split at h<;>first|(cases h;done)|skip
 rename_i hl
 injection h with h;subst h
 rw [lk_cons]
 exact LO.makeNoZeroT (n:=n) (ps:=#[3]) ho (funE_ok E hE) (eNat_ok E hn) Tryz.func265 (by kernel_rfl) (by kernel_rfl) (by kernel_rfl) (by kernel_rfl) ty97 (Nat.le_of_ble_eq_true hl)
noncomputable def ext0 (o:Oper) (E:Operand→Option AV) (L:HL) (N:Nat):Option Res:=match o.op with
 | .binOp .eql t x y _=>orElse (eCmp tysT E L ifsT false t x y) (eAggCmp E L false t x y)
 | .binOp .neq t x y _=>orElse (eCmp tysT E L ifsT true t x y) (eAggCmp E L true t x y)
 | .slice t x lo hi none=>orElse (eSliceT E L t x lo hi) (orElse (eSlice2 tysT E L t x lo hi none) (orElse (eSliceAr tysT E L t x lo hi) (eGlob o E fun E'=>eSlice2 tysT E' L t x lo hi none)))
 | .slice t x lo hi (some m)=>eSlice2 tysT E L t x lo hi (some m)
 | .alloc t=>eBld L N t
 | .convert s t x=>orElse (eConv2 tysT E L s t x) (eUns E L s t x)
 | .sliceToArrayPointer t x=>eToArr tysT E L t x
 | .load t x=>eGlob o E fun E'=>eLoad tysT E' L t x
 | .indexAddr t x y=>eGlob o E fun E'=>eIndexAddr tysT E' L t x y
 | .makeMap t none=>eMakeMap L N t
 | .lookup t x y false=>eLookup E L t x y
 | .mapUpdate t x y z=>eMapPut E L t x y z
 | .call ⟨.builtin .cap,⟨[x]⟩,⟨[t]⟩⟩=>eCap tysT E L t x
 | .call ⟨.builtin .append,⟨[x,y]⟩,⟨[t,tx]⟩⟩=>orElse (eAppendT E L N t tx x y) (eZeros tysT E L N t tx x y)
 | .call ⟨.builtin .copy,⟨[x,y]⟩,⟨[t,tx]⟩⟩=>eCopy tysT E L t tx x y
 | .call ⟨.builtin .unsafeSliceData,⟨[x]⟩,_⟩=>eSliceData E L x
 | .call ⟨.builtin .unsafeString,⟨[x,y]⟩,⟨[pt,_]⟩⟩=>eUnsafeStr E L pt x y
 | .call ⟨.value (.func g),xs,_⟩=>orElse (eExt E L 403 355 346 g xs.toList) (eMkNz E L N g xs.toList)
 | _=>none
theorem ext0_ok:∀ o E L N R,ext0 o E L N=some R→LO Tryz.prog o E (lkH L) N R.rd R.wr R.v (lkH R.L):=by
 intro o E L N R h
 unfold ext0 at h
 split at h<;>first|(cases h;done)|skip
 ·rename_i ho
  exact orElse_ok (fun R h=>eCmp_ok tysT o E L N ifsT_ok (neg:=false) ho h) (fun R h=>eAggCmp_ok o E L N (neg:=false) ho h) R h
 ·rename_i ho
  exact orElse_ok (fun R h=>eCmp_ok tysT o E L N ifsT_ok (neg:=true) ho h) (fun R h=>eAggCmp_ok o E L N (neg:=true) ho h) R h
 ·rename_i ho
  exact orElse_ok (fun R h=>eSliceT_ok o E L N ho h) (orElse_ok (fun R h=>eSlice2_ok tysT o E L N ho h) (orElse_ok (fun R h=>eSliceAr_ok tysT o E L N ho h) (fun R h=>eGlob_ok o E L N (fun E' R h=>eSlice2_ok tysT o E' L N ho h) h))) R h
 ·rename_i ho;exact eSlice2_ok tysT o E L N ho h
 ·rename_i ho;exact eBld_ok o E L N ho h
 ·rename_i ho;exact orElse_ok (fun R h=>eConv2_ok tysT o E L N ho h) (fun R h=>eUns_ok o E L N ho h) R h
 ·rename_i ho;exact eToArr_ok tysT o E L N ho h
 ·rename_i ho;exact eGlob_ok o E L N (fun E' R h=>eLoad_ok tysT o E' L N ho h) h
 ·rename_i ho;exact eGlob_ok o E L N (fun E' R h=>eIndexAddr_ok tysT o E' L N ho h) h
 ·rename_i ho;exact eMakeMap_ok o E L N ho h
 ·rename_i ho;exact eLookup_ok o E L N ho h
 ·rename_i ho;exact eMapPut_ok o E L N ho h
 ·rename_i ho;exact eCap_ok tysT o E L N ho h
 ·rename_i ho;exact orElse_ok (fun R h=>eAppendT_ok o E L N ho h) (fun R h=>eZeros_ok tysT o E L N ho h) R h
 ·rename_i ho;exact eCopy_ok tysT o E L N ho h
 ·rename_i ho;exact eSliceData_ok o E L N ho h
 ·rename_i ho;exact eUnsafeStr_ok o E L N ho h
 ·rename_i ho;exact orElse_ok (fun R h=>eExt_ok o E L N xIdx xCnt xEsc ho h) (fun R h=>eMkNz_ok ho h) R h
def anyT (E:Operand→Option AV):List Operand→Bool
 | []=>false
 | x::l=>match E x with
  | some (.oslt _ _ _ _ _)=>true
  | some (.ownt _ _ _)=>true
  | _=>anyT E l
theorem stdT_ok (V:Env Tryz.prog):∀ o E L N R,eStd V o (unE E) L N=some R→LO Tryz.prog o E (lkH L) N R.rd R.wr R.v (lkH R.L):=fun o E L N _R h=>(eStd_ok V o (unE E) L N h).weaken
noncomputable def envS:Env Tryz.prog where
 Y:=tysT
 fns:=fnTab
 fnsOk:=fun g f h=>fnTab_ok g f h
 kn:=fun _ _ _ _=>none
 knOk:=fun _ _ _ _ _ _ h=>by cases h
 ext:=fun _ _ _ _=>none
 extOk:=fun _ _ _ _ _ h=>by cases h
 c:=16
 c0:=by decide
 mixed:=mixed
noncomputable def extT (o:Oper) (E:Operand→Option AV) (L:HL) (N:Nat):Option Res:=match ext0 o E L N with
 | some R=>some R
 | none=>match anyT E o.op.operands.toList with
  | true=>orElse (eStd envS o (unE E) L N) (ext0 o (unE E) L N)
  | false=>none
theorem extT_ok:∀ o E L N R,extT o E L N=some R→LO Tryz.prog o E (lkH L) N R.rd R.wr R.v (lkH R.L):=by
 intro o E L N R h
 unfold extT at h
 split at h
 ·rename_i R' hR
  injection h with h;subst h
  exact ext0_ok _ _ _ _ _ hR
 ·split at h<;>first|(cases h;done)|skip
  exact orElse_ok (fun R h=>stdT_ok envS o E L N R h) (fun R h=>(ext0_ok o (unE E) L N R h).weaken) R h
noncomputable def envK (kn:Rec) (hkn:RecOK Tryz.prog kn):Env Tryz.prog where
 Y:=tysT
 fns:=fnTab
 fnsOk:=fun g f h=>fnTab_ok g f h
 kn:=kn
 knOk:=hkn
 ext:=extT
 extOk:=extT_ok
 c:=16
 c0:=by decide
 mixed:=mixed
theorem median_any (l:List ObjR) (a b c:Nat) (s:Int) (ha:a < l.length) (hb:b < l.length) (hc:c < l.length) (hl:l.length≤1000) (hs:0≤s∧s≤90):∃ v H',AFn Tryz.prog 292 2 [.osl 0 0 l.length 6,.base (.int .i64 (a:Int)),.base (.int .i64 (b:Int)),.base (.int .i64 (c:Int)),.own 1 0,cmpFn] (up (up mt 1 (some [.base (.int .i64 s)])) 0 (some (objsC l))) v H'∧∃ (r:Nat) (s':Int),((r=a∨r=b∨r=c)∧0≤s'∧s'≤s + 3)∧v=.base (.int .i64 (r:Int))∧H'=(up (up mt 1 (some [.base (.int .i64 s')])) 0 (some (objsC l))):=by
 refine AFn.ex Tryz.func292 rfl rfl (Nat.le_of_ble_eq_true rfl) ?_
 have hne:=objsC_ne (l:=l) (by omega)
 obtain ⟨_,_,h1,p1,q1,s1,⟨e1,b1⟩,rfl,rfl⟩:=order2_any l a b s ha hb hl ⟨hs.1,by omega⟩
 have hp1:p1 < l.length:=by omega
 have hq1:q1 < l.length:=by omega
 obtain ⟨_,_,h2,p2,q2,s2,⟨e2,b2⟩,rfl,rfl⟩:=order2_any l q1 c s1 hq1 hc hl (by omega)
 have hp2:p2 < l.length:=by omega
 obtain ⟨_,_,h3,p3,q3,s3,⟨e3,b3⟩,rfl,rfl⟩:=order2_any l p1 p2 s2 hp1 hp2 hl (by omega)
 unfold cmpFn at h1 h2 h3 ⊢
 refine Wq<|qW 2 3 rfl<|qA rfl<|Nl<|Wq<|qW 7 18 rfl<|qM rfl<|qM rfl<|qM rfl<|qM rfl<|qM rfl<|Od rfl rfl (LO.call2 (q0:=0) (q1:=1) (fr:=[]) rfl rfl h1 fok343 (.osl 0 rfl rfl (.cons rfl (.pure rfl) (.cons rfl (.pure rfl) (.own 1 rfl rfl (.cons rfl (.pure rfl) .nil))))) (by decide) (by decide) (by decide) rfl rfl (objsC_pure _) rfl (objsC_pure _) rfl hne (Cn _ _) rfl)<|qM rfl<|qX rfl<|qX rfl<|qA rfl<|qA rfl<|Nl<|Wq<|qW 22 33 rfl<|qM rfl<|qM rfl<|qM rfl<|qM rfl<|qM rfl<|Od rfl rfl (LO.call2 (q0:=0) (q1:=1) (fr:=[]) rfl rfl h2 fok343 (.osl 0 rfl rfl (.cons rfl (.pure rfl) (.cons rfl (.pure rfl) (.own 1 rfl rfl (.cons rfl (.pure rfl) .nil))))) (by decide) (by decide) (by decide) rfl rfl (objsC_pure _) rfl (objsC_pure _) rfl hne (Cn _ _) rfl)<|qM rfl<|qX rfl<|qX rfl<|qA rfl<|qA rfl<|Nl<|Wq<|qW 37 48 rfl<|qM rfl<|qM rfl<|qM rfl<|qM rfl<|qM rfl<|Od rfl rfl (LO.call2 (q0:=0) (q1:=1) (fr:=[]) rfl rfl h3 fok343 (.osl 0 rfl rfl (.cons rfl (.pure rfl) (.cons rfl (.pure rfl) (.own 1 rfl rfl (.cons rfl (.pure rfl) .nil))))) (by decide) (by decide) (by decide) rfl rfl (objsC_pure _) rfl (objsC_pure _) rfl hne (Cn _ _) rfl)<|qM rfl<|qX rfl<|qX rfl<|qA rfl<|qA rfl<|Nl<|Wq<|qW 52 54 rfl<|qM rfl<|qA rfl<|Nl<|Wz ⟨.inl rfl,_,(up (up mt 1 (some [.base (.int .i64 s3)])) 0 (some (objsC l))),(Rc (Rt0 rfl) Rv),(aU rfl (aU rfl aM)),?_⟩
 exact ⟨q3,s3,⟨by omega,by omega,by omega⟩,rfl,rfl⟩
theorem pivot_any (l:List ObjR) (a b:Nat) (h13:a + 13≤b) (h15:b≤a + 15) (hb:b≤l.length) (hl:l.length≤1000):∃ v H',AFn Tryz.prog 215 1 [.osl 0 0 l.length 6,.base (.int .i64 (a:Int)),.base (.int .i64 (b:Int)),cmpFn] (up mt 0 (some (objsC l))) v H'∧∃ (p:Nat) (h:Int),((a≤p∧p < b)∧(h=0∨h=1))∧v=.tup [.base (.int .i64 (p:Int)),.base (.int .i64 h)]∧H'=(up mt 0 (some (objsC l))):=by
 refine AFn.ex Tryz.func215 rfl rfl (Nat.le_of_ble_eq_true rfl) ?_
 have hne:=objsC_ne (l:=l) (by omega)
 obtain ⟨n,hn⟩:∃ n,b=a + n:=⟨b - a,by omega⟩
 have hbn:(b:Int) - (a:Int)=((n:Nat):Int):=by omega
 have e1:(a:Int) + (n:Int) / 4 * 1=((a + n / 4:Nat):Int):=by omega
 have e2:(a:Int) + (n:Int) / 4 * 2=((a + n / 4 * 2:Nat):Int):=by omega
 have e3:(a:Int) + (n:Int) / 4 * 3=((a + n / 4 * 3:Nat):Int):=by omega
 obtain ⟨_,_,hmd,r,s,⟨hr,hs⟩,rfl,rfl⟩:=median_any l (a + n / 4) (a + n / 4 * 2) (a + n / 4 * 3) 0 (by omega) (by omega) (by omega) hl (by omega)
 have g1:decide ((n:Int) ≥ 8)=true:=decide_eq_true (by omega)
 have g2:decide ((n:Int) ≥ 50)=false:=decide_eq_false (by omega)
 have g3:(s == 12)=false:=by simp;omega
 unfold cmpFn at hmd ⊢
 refine Wq<|qW 1 3 rfl<|qA rfl<|qA rfl<|Nl<|Wq<|qW 7 11 rfl<|qM rfl<|qM rfl<|Od rfl rfl (LO.sub_in rfl rfl rfl (iW _ (by omega)))<|qA rfl<|Nl ?_
 rw [hbn]
 refine Wq<|qW 15 16 rfl<|qB rfl ty3<|Nl<|Wq<|qW 20 26 rfl<|qM rfl<|qM rfl<|Od rfl rfl (LO.quo_in rfl rfl rfl (by omega) (by omega) (iW _ (by omega)))<|Od rfl rfl (LO.mul_in rfl rfl rfl (iW _ (by omega)))<|qZ rfl (iW _ (by omega))<|qA rfl<|Nl ?_
 rw [e1]
 refine Wq<|qW 30 36 rfl<|qM rfl<|qM rfl<|Od rfl rfl (LO.quo_in rfl rfl rfl (by omega) (by omega) (iW _ (by omega)))<|Od rfl rfl (LO.mul_in rfl rfl rfl (iW _ (by omega)))<|qZ rfl (iW _ (by omega))<|qA rfl<|Nl ?_
 rw [e2]
 refine Wq<|qW 40 46 rfl<|qM rfl<|qM rfl<|Od rfl rfl (LO.quo_in rfl rfl rfl (by omega) (by omega) (iW _ (by omega)))<|Od rfl rfl (LO.mul_in rfl rfl rfl (iW _ (by omega)))<|qZ rfl (iW _ (by omega))<|qA rfl<|Nl ?_
 rw [e3]
 refine Wq<|Wq<|qW 50 52 rfl<|qM rfl<|qGe rfl<|Nl<|Wt rfl ‹_›<|Wq<|Wq<|qW 56 58 rfl<|qM rfl<|qGe rfl<|Nl<|Wo rfl ‹_›<|Wu<|qW 89 96 rfl<|qM rfl<|qM rfl<|qM rfl<|qM rfl<|qM rfl<|Od rfl rfl (LO.call2 (q0:=0) (q1:=15) (fr:=[]) rfl rfl hmd fok292 (.osl 0 rfl rfl (.cons rfl (.pure rfl) (.cons rfl (.pure rfl) (.cons rfl (.pure rfl) (.own 1 rfl rfl (.cons rfl (.pure rfl) .nil)))))) (by decide) (by decide) (by decide) rfl rfl (objsC_pure _) rfl (objsC_pure _) rfl hne (Cn _ _) rfl)<|qA rfl<|Nl<|Wq<|qW 100 101 rfl<|qL rfl ty3 rfl<|Nl<|Wb ?_
 cases g4:(s == 0) with
 | true =>
  refine Wq<|qW 105 107 rfl<|qE rfl<|qA rfl<|Nl<|Wt rfl ‹_›<|Wq<|qW 111 114 rfl<|qM rfl<|qA rfl<|qA rfl<|Nl<|Wz ⟨.inl rfl,_,(up mt 0 (some (objsC l))),(Rc (Rt0 rfl) (Rc (Rt0 rfl) Rv)),(aU rfl aM),?_⟩
  exact ⟨r,1,⟨by omega,.inr rfl⟩,rfl,rfl⟩
 | false =>
  refine Wq<|qW 105 107 rfl<|qE rfl<|qA rfl<|Nl<|Wo rfl ‹_›<|Wq<|qW 118 120 rfl<|qE rfl<|qA rfl<|Nl<|Wo rfl ‹_›<|Wq<|qW 131 134 rfl<|qM rfl<|qA rfl<|qA rfl<|Nl<|Wz ⟨.inl rfl,_,(up mt 0 (some (objsC l))),(Rc (Rt0 rfl) (Rc (Rt0 rfl) Rv)),(aU rfl aM),?_⟩
  exact ⟨r,0,⟨by omega,.inl rfl⟩,rfl,rfl⟩
theorem partial_any (l:List ObjR) (a b:Nat) (hab:a < b) (h15:b≤a + 15) (hb:b≤l.length) (hl:l.length≤1000):∃ v H',AFn Tryz.prog 217 1 [.osl 0 0 l.length 6,.base (.int .i64 (a:Int)),.base (.int .i64 (b:Int)),cmpFn] (up mt 0 (some (objsC l))) v H'∧∃ e:Bool,v=.base (.bool e)∧H'=(up mt 0 (some (objsC l))):=by
 refine AFn.ex Tryz.func217 rfl rfl (Nat.le_of_ble_eq_true rfl) ?_
 have hlt5:decide ((b:Int) - (a:Int) < 50)=true:=decide_eq_true (by omega)
 unfold cmpFn
 refine Wq<|qW 1 2 rfl<|qA rfl<|Nl<|Wq<|qW 6 9 rfl<|qM rfl<|qZ rfl (iW _ (by omega))<|qA rfl<|Nl ?_
 rw [show (a:Int) + 1=((a + 1:Nat):Int) from by omega]
 refine Wq<|Wq<|qW 13 14 rfl<|qA rfl<|Nl<|Wb<|W.rename [(0,0)] 1 (by decide) ?_ ?_ (W.loop_ind (α:=Nat) (fun x=>x) 1 (fun x=>up (up (up (up (up (up mt 0 (some (.osl 0 0 l.length 6))) 1 (some (.base (.int .i64 (a:Int))))) 2 (some (.base (.int .i64 (b:Int))))) 3 (some (.base (.func (.func 88) #[] #[])))) 9 (some (.base (.int .i64 ((a + 1:Nat):Int))))) 10 (some (.base (.int .i64 0)))) (fun x=>up mt 0 (some (objsC l))) (fun x=>x=0) 0 (show 0=0 from rfl) ?_)
 ·exact aR (aR (aR (aR (aR (aI aM)))))
 ·exact aU (kP rfl (objsC_pure _)) aM
 rintro z hIA ihA
 try (dsimp only at hIA)
 try dsimp only
 clear ihA
 refine Wq<|Wq<|qW 18 20 rfl<|qM rfl<|qK rfl<|Nl<|Wt rfl rfl<|Wu<|Wq<|Wb<|Wq<|Wb<|W.rename [(0,0)] 1 (by decide) ?_ ?_ (W.loop_ind (α:=Nat) (fun x=>b - x) 1 (fun x=>up (up (up (up (up (up mt 0 (some (.osl 0 0 l.length 6))) 1 (some (.base (.int .i64 (a:Int))))) 2 (some (.base (.int .i64 (b:Int))))) 3 (some (.base (.func (.func 88) #[] #[])))) 9 (some (.base (.int .i64 (x:Int))))) 10 (some (.base (.int .i64 0)))) (fun x=>up mt 0 (some (objsC l))) (fun x=>a + 1≤x∧x≤b) (a + 1) (show a + 1≤(a + 1)∧(a + 1)≤b from ⟨Nat.le_refl _,by omega⟩) ?_)
 ·exact aR (aR (aR (aR (aR (aI aM)))))
 ·exact aU (kP rfl (objsC_pure _)) aM
 rintro i hIB ihB
 try (dsimp only at hIB)
 try dsimp only
 obtain ⟨hi1,hi2⟩:=hIB
 by_cases hc:i < b
 ·have g1:decide ((i:Int) < (b:Int))=true:=decide_eq_true (by omega)
  have hii:(i:Int) + 1=((i + 1:Nat):Int):=by omega
  obtain ⟨k,hk⟩:∃ k,i=k + 1:=⟨i - 1,by omega⟩
  have hik:(i:Int) - 1=(k:Int):=by omega
  have hil:i < l.length:=by omega
  have hkl:k < l.length:=by omega
  have hne0:((i:Int) == (b:Int))=false:=by simp;omega
  have hti:=objs_tk0 hil
  have htk:=objs_tk0 hkl
  have hcm:=compare_any l[i] l[k]
  generalize l[i]=x at hti hcm
  generalize l[k]=y at htk hcm
  cases g3:decide (cmpO x y < 0) with
  | true =>
   have g4:(!decide (cmpO x y < 0))=false:=by rw [g3];rfl
   clear ihB
   refine Wq<|Wq<|Wd 24 42 (by decide) rfl mixed rfl<|qM rfl<|qM rfl<|qK rfl<|qM rfl<|gM rfl ‹_›<|gM rfl ‹_›<|gM rfl ‹_›<|qU rfl ‹_› rfl (Ia rfl rfl rfl rfl ty30 ty40 (by omega))<|gG rfl ‹_› ty40 rfl hti<|gM rfl ‹_›<|gM rfl ‹_›<|qU rfl ‹_› rfl (LO.sub_in rfl rfl rfl (iW _ (by omega)))<|qU rfl ‹_› rfl (Ia rfl rfl rfl hik ty30 ty40 (by omega))<|gG rfl ‹_› ty40 rfl htk<|qU rfl ‹_› rfl (LO.callF (fr:=[]) rfl rfl hcm fok88 (.cons rfl (.pure rfl) (.cons rfl (.pure rfl) .nil)) rfl)<|gK rfl ‹_›<|gO rfl ‹_›<|qT rfl ‹_› rfl<|Nl ⟨by kernel_rfl,(Wo rfl ‹_›<|Wx<|Wq<|Wq<|qW 53 56 rfl<|qM rfl<|qM rfl<|qE rfl<|Nl<|Wo rfl ‹_›<|Wu<|Wq<|Wq<|qW 65 69 rfl<|qM rfl<|qM rfl<|Od rfl rfl (LO.sub_in rfl rfl rfl (iW _ (by omega)))<|qK rfl<|Nl<|Wt rfl ‹_›<|Wq<|qW 73 74 rfl<|qA rfl<|Nl<|Wz ⟨.inl rfl,_,(up mt 0 (some (objsC l))),(Rc (Rt0 rfl) Rv),(aU rfl aM),?_⟩)⟩
   exact ⟨false,rfl,rfl⟩
  | false =>
   have g4:(!decide (cmpO x y < 0))=true:=by rw [g3];rfl
   refine Wq<|Wq<|Wd 24 42 (by decide) rfl mixed rfl<|qM rfl<|qM rfl<|qK rfl<|qM rfl<|gM rfl ‹_›<|gM rfl ‹_›<|gM rfl ‹_›<|qU rfl ‹_› rfl (Ia rfl rfl rfl rfl ty30 ty40 (by omega))<|gG rfl ‹_› ty40 rfl hti<|gM rfl ‹_›<|gM rfl ‹_›<|qU rfl ‹_› rfl (LO.sub_in rfl rfl rfl (iW _ (by omega)))<|qU rfl ‹_› rfl (Ia rfl rfl rfl hik ty30 ty40 (by omega))<|gG rfl ‹_› ty40 rfl htk<|qU rfl ‹_› rfl (LO.callF (fr:=[]) rfl rfl hcm fok88 (.cons rfl (.pure rfl) (.cons rfl (.pure rfl) .nil)) rfl)<|gK rfl ‹_›<|gO rfl ‹_›<|qT rfl ‹_› rfl<|Nl ⟨by kernel_rfl,(Wt rfl ‹_›<|Wu<|Wb<|qW 46 49 rfl<|qM rfl<|qZ rfl (iW _ (by omega))<|qA rfl<|Nl ?_)⟩
   rw [hii]
   refine WL.rename [(0,0)] 1 (by decide) ?_ ?_ (ihB (i + 1) (show b - (i + 1) < b - i from by omega) (show a + 1≤(i + 1)∧(i + 1)≤b from ⟨by omega,by omega⟩))
   ·exact aR (aR (aR (aR (aR (aI aM)))))
   ·exact aU (kP rfl (objsC_pure _)) aM
 ·have g1:decide ((i:Int) < (b:Int))=false:=decide_eq_false (by omega)
  have hne0:((i:Int) == (b:Int))=true:=by simp;omega
  clear ihB
  refine Wq<|Wq<|Wd 24 42 (by decide) rfl mixed rfl<|qM rfl<|qM rfl<|qK rfl<|qM rfl<|qD rfl ‹_› rfl<|qD rfl ‹_› rfl<|qD rfl ‹_› rfl<|qD rfl ‹_› rfl<|qD rfl ‹_› rfl<|qD rfl ‹_› rfl<|qD rfl ‹_› rfl<|qD rfl ‹_› rfl<|qD rfl ‹_› rfl<|qD rfl ‹_› rfl<|qD rfl ‹_› rfl<|qD rfl ‹_› rfl<|qD rfl ‹_› rfl<|qP rfl ‹_› rfl<|Nl ⟨by kernel_rfl,(Wo rfl rfl<|Wx<|Wq<|Wq<|qW 53 56 rfl<|qM rfl<|qM rfl<|qE rfl<|Nl<|Wt rfl ‹_›<|Wq<|qW 60 61 rfl<|qA rfl<|Nl<|Wz ⟨.inl rfl,_,(up mt 0 (some (objsC l))),(Rc (Rt0 rfl) Rv),(aU rfl aM),?_⟩)⟩
  exact ⟨true,rfl,rfl⟩
end Go.Proofs.YtbfnfgpjgdbmeaaGreatDoor
