/-
  Operations carried out: what is appended and copied, lengths. Values brought into their plain form while they are carried on (so that what the kernel carries stays small).
-/
import Derived.Test.YtbfnfgpjgdbmeaaGreatDoorE4
import Derived.Test.YtbfnfgpjgdbmeaaGreatDoorMab
namespace Go.Proofs.YtbfnfgpjgdbmeaaGreatDoor
open Go.RowKit
def SrcG (P:Program) (E:Operand→Option AV) (H:Hp) (tx:TypeId) (y:Operand) (sz m:Nat) (ns:List AV) (rd:List Nat):Prop :=
 ∀ (X:Nat→Prop) (φ:Em) (K:Hp) (w:World) (u:Value),(∀ r,r∈rd→K r=H r)→St X φ K w→(∀ a,E y=some a→Rep X w φ u a) →
  ∃ news:List Value,Src P sz tx u m news w∧news.length=ns.length∧∀ (j:Nat) c,ns[j]?=some c→c.one=true∧∃ x,news[j]?=some x∧Rep X w φ x c
theorem SrcAV.g {P:Program} {E:Operand→Option AV} {H:Hp} {y:Operand} {sz m:Nat} {ns:List AV} {rd:List Nat} {tx ex sx bx:Nat} {zx:List AV} (h:SrcAV E H y sz m ns rd) (htx:TyOK P tx (.sl ex) sx bx zx) (h0:0 < sz):SrcG P E H tx y sz m ns rd :=
 fun _ _ _ _ _ hK hst hR=>h.src hK hst hR (lay_sl htx) h0
theorem SrcG.str {P:Program} {E:Operand→Option AV} {H:Hp} {y:Operand} {s:ByteArray} {tx sx bx:Nat} {zx:List AV} (h:E y=some (.base (.string s))) (htx:TyOK P tx .str sx bx zx):SrcG P E H tx y 1 s.size (s.data.toList.map fun b=>.base (.int .u8 (b.toNat:Int))) []:=by
 intro X φ K w u _ _ hR
 obtain rfl:=(hR _ h).base_eq
 obtain ⟨d,inf,z,h1,h2,_⟩:=htx.spec
 have hd:d=.string:=by
  cases d<;>simp [layOf] at h2<;>first|rfl|(split at h2<;>cases h2)
 subst hd
 refine ⟨byteCells s,Src.ofString w h1 s,by simp [byteCells],fun j c hj=>?_⟩
 rw [List.getElem?_map] at hj
 obtain ⟨b,hb,rfl⟩:=Option.map_eq_some_iff.1 hj
 exact ⟨rfl,.int .u8 b.toNat,by simp [byteCells,hb],.base _⟩
section
variable {P:Program} {o:Oper} {E:Operand→Option AV} {H:Hp} {f:Nat} {v a:AV} {t tx:TypeId} {l lx:Lay} {size bytes sx bx:Nat} {zero zx:List AV} {x y:Operand} {e ex sz by' m:Nat} {l':Lay} {z' ns:List AV} {rd:List Nat}
theorem LO.append_nilG (ho:o.op=.call { callee:=.builtin .append,args:=#[x,y],argTypes:=#[t,tx] }) (hx:E x=some .nils) (hy:SrcG P E H tx y sz m ns rd) (ht:TyOK P t (.sl e) size bytes zero) (he:TyOK P e l' sz by' z') (h0:0 < sz)
 (hm:m * by'≤140737488355328) (hm2:m≤9223372036854775807) (_hrd:f ∉ rd):LO P o E H f rd [f] (.osl f 0 m sz) (up H f (some ns)):=by
 refine ⟨fun r hr=>up_ne (by simpa using hr),fun E' K hE hK X φ w ρ hR hst hf=>?_⟩
 rw [ovr_one]
 have e1:ρ x=.slice none 0 0:=by
  have h:=hR x _ ((hE x (by simp [ho,Op.operands,Call.operands])).trans hx)
  generalize ρ x=u at h
  cases h;rfl
 obtain ⟨news,hs,hnl,hns⟩:=hy X φ K w (ρ y) (fun r hr=>hK r (.inl hr)) hst (fun a ha=>hR y a ((hE y (by simp [ho,Op.operands,Call.operands])).trans ha))
 obtain ⟨i,z,hi,hsz,hby,hz,hzs⟩:=info_of he
 subst hsz
 unfold OpW
 by_cases hm0:m=0
 ·subst hm0
  have hns0:ns=[]:=List.eq_nil_of_length_eq_zero (by rw [← hnl,hs.newsLen];simp)
  have hrun:=run_append_none (P:=P) (ty:=o.type) (lay_sl ht) hi none (ρ y) news hs
  simp only [execOp,ho,resolve,invoke,Go.builtin,Sem.run_bind,Sem.run_pure,Result.andThen_ok,List.map_toArray,List.map_cons,List.map_nil,e1,hrun]
  obtain ⟨h1,h2⟩:=hst.phantom hf
  subst hns0
  exact ⟨X,φ,h1,h2,.osl0 _ _ _ _⟩
 ·have hfc:(Builtin.firstCells i.size 0 (.slice none 0 0)).run P w.drew=.ok ([]:List Value).toArray w.drew:=by simp [Builtin.firstCells]
  have hrun:=run_append_grow_src (P:=P) w t tx o.type e i z (lay_sl ht) hi hz none 0 0 [] hfc (ρ y) m news hs (by omega) (by omega) (growslice_fits (by omega) (by rw [hby];simpa using hm))
  simp only [execOp,ho,resolve,invoke,Go.builtin,Sem.run_bind,Sem.run_pure,Result.andThen_ok,List.map_toArray,List.map_cons,List.map_nil,e1,hrun]
  obtain ⟨h1,h2,h3,h4,h5⟩:=hst.fresh (w':=w.drew.alloc (.cells (([]++news).toArray++Builtin.zeroCells z.cells (grownCap w (0 + m) 0 e - (0 + m))) e)) (cs:=ns) hf rfl rfl rfl rfl (fun j c hj=>by
   obtain ⟨g1,u,g2,g3⟩:=hns j c hj
   have hlt:j < news.length:=(List.getElem?_eq_some_iff.1 g2).1
   exact ⟨g1,u,by simp [Array.getElem?_append,hlt];exact (List.getElem?_eq_some_iff.1 g2).2,g3⟩)
  refine ⟨_,_,h1,h2,?_⟩
  have:=new_row_rep (φ':=fun r=>if r=f then some (w.heap.size,0) else φ r) (X':=fun b=>X b∨b=w.heap.size) (sz:=i.size) h5 h4 (by simp [hs.newsLen]) hzs (grownCap_ge w (0 + m) 0 e)
  simpa using this
theorem LO.appendG {r off len:Nat} {cs olds:List AV} (ho:o.op=.call { callee:=.builtin .append,args:=#[x,y],argTypes:=#[t,tx] }) (hx:E x=some (.osl r off len sz)) (hy:SrcG P E H tx y sz m ns rd) (hH:H r=some cs) (hv:Tk cs off (len * sz) olds)
 (ht:TyOK P t (.sl e) size bytes zero) (he:TyOK P e l' sz by' z') (h0:0 < sz) (hm:(len + m) * by'≤140737488355328) (hm2:len + m≤9223372036854775807) (hrf:r≠f) :
 LO P o E H f rd [f,r] (.osl f 0 (len + m) sz) (up (up H r none) f (some (olds++ns))):=by
 refine ⟨fun r' hr'=>by simp at hr';rw [up_ne hr'.1,up_ne hr'.2],fun E' K hE hK X φ w ρ hR hst hf=>?_⟩
 rw [ovr_two]
 have hKr:=(hK r (.inr (by simp))).trans hH
 obtain ⟨A,cap,e1,hc,hcase⟩:=(hR x _ ((hE x (by simp [ho,Op.operands,Call.operands])).trans hx)).osl_inv
 obtain ⟨news,hs,hnl,hns⟩:=hy X φ K w (ρ y) (fun r hr=>hK r (.inl hr)) hst (fun a ha=>hR y a ((hE y (by simp [ho,Op.operands,Call.operands])).trans ha))
 obtain ⟨i,z,hi,hsz,hby,hz,hzs⟩:=info_of he
 subst hsz
 have hdrop:∀ c:List AV,∀ r' cs',up (up K r none) f (some c) r'=some cs'→up K f (some c) r'=some cs':=by
  intro c r' cs' h
  by_cases h1:r'=f
  ·subst h1;rw [up_at] at h ⊢;exact h
  ·rw [up_ne h1] at h ⊢
   by_cases h2:r'=r
   ·subst h2;rw [up_at] at h;cases h
   ·rwa [up_ne h2] at h
 -- what grows
 have grow:cap < len + m→∀ oldV:List Value,oldV.length=len * i.size→(Builtin.firstCells i.size len (.slice A len cap)).run P w.drew=.ok oldV.toArray w.drew→(∀ (j:Nat) c,olds[j]?=some c→c.one=true∧∃ u,oldV[j]?=some u∧Rep X w φ u c) →
  OpW P o ρ w fun x w'=>∃ X' φ',Nxt K (·=f) X φ w (up (up K r none) f (some (olds++ns))) X' φ' w'∧St X' φ' (up (up K r none) f (some (olds++ns))) w'∧Rep X' w' φ' x (.osl f 0 (len + m) i.size):=by
  intro hg oldV hol hfc hos
  have hrun:=run_append_grow_src (P:=P) w t tx o.type e i z (lay_sl ht) hi hz A len cap oldV hfc (ρ y) m news hs hg (by omega) (growslice_fits hg (by rw [hby];exact hm))
  unfold OpW
  simp only [execOp,ho,resolve,invoke,Go.builtin,Sem.run_bind,Sem.run_pure,Result.andThen_ok,List.map_toArray,List.map_cons,List.map_nil,e1,hrun]
  have hoL:oldV.length=olds.length:=by rw [hol,hv.1]
  obtain ⟨h1,h2,h3,h4,h5⟩:=hst.fresh (w':=w.drew.alloc (.cells ((oldV++news).toArray++Builtin.zeroCells z.cells (grownCap w (len + m) cap e - (len + m))) e)) (cs:=olds++ns) hf rfl rfl rfl rfl (fun j c hj=>by
   have hsz2:(oldV++news).toArray.size=oldV.length + news.length:=by simp
   rw [List.getElem?_append] at hj
   split at hj
   ·rename_i hlt
    obtain ⟨g1,u,g2,g3⟩:=hos j c hj
    exact ⟨g1,u,by rw [Array.getElem?_append,if_pos (by omega)];simp only [List.getElem?_toArray];rw [List.getElem?_append,if_pos (by omega)];exact g2,g3⟩
   ·rename_i hge
    obtain ⟨g1,u,g2,g3⟩:=hns _ c hj
    have hlt:j - olds.length < news.length:=(List.getElem?_eq_some_iff.1 g2).1
    exact ⟨g1,u,by rw [Array.getElem?_append,if_pos (by omega)];simp only [List.getElem?_toArray];rw [List.getElem?_append,if_neg (by omega),hoL];exact g2,g3⟩)
  exact ⟨_,_,h1.drop (hdrop _),h2.drop (hdrop _),new_row_rep (φ':=fun r=>if r=f then some (w.heap.size,0) else φ r) (X':=fun b=>X b∨b=w.heap.size) (sz:=i.size) h5 h4 (by simp [hs.newsLen,hol,Nat.add_mul]) hzs (grownCap_ge w (len + m) cap e)⟩
 rcases hcase with ⟨h1,h2⟩|⟨b,o',hp,hA,hbz⟩
 ·subst h1 h2
  have holds:olds=[]:=List.eq_nil_of_length_eq_zero (by rw [hv.1];simp)
  by_cases hm0:m=0
  ·subst hm0
   have hns0:ns=[]:=List.eq_nil_of_length_eq_zero (by rw [← hnl,hs.newsLen];simp)
   have hrun:=run_append_none (P:=P) (ty:=o.type) (lay_sl ht) hi A (ρ y) news hs
   unfold OpW
   simp only [execOp,ho,resolve,invoke,Go.builtin,Sem.run_bind,Sem.run_pure,Result.andThen_ok,List.map_toArray,List.map_cons,List.map_nil,e1,hrun]
   obtain ⟨h1,h2⟩:=hst.phantom hf
   subst hns0 holds
   exact ⟨X,φ,h1.drop (hdrop _),h2.drop (hdrop _),.osl0 _ _ _ _⟩
  ·refine grow (by omega) [] (by simp) (by cases A<;>simp [Builtin.firstCells,loadCells,loadCellsFrom]) fun j c hj=>?_
   rw [holds] at hj
   simp at hj
 ·obtain ⟨c,el,hX,hh,hcs⟩:=hst.cells hKr hp (by omega)
  rw [bsz_of hh] at hbz
  by_cases hroom:len + m≤cap
  ·have hmul:len * i.size + m * i.size≤cap * i.size:=by rw [← Nat.add_mul];exact Nat.mul_le_mul_right _ hroom
   have hfit:o' + off + len * i.size + news.length≤c.size:=by rw [hs.newsLen];omega
   subst hA
   have hrun:=run_append_room_row (P:=P) (ty:=o.type) (lay_sl ht) hi b (o' + off) len cap (ρ y) m news hs hroom hh hfit
   unfold OpW
   simp only [execOp,ho,resolve,invoke,Go.builtin,Sem.run_bind,Sem.run_pure,Result.andThen_ok,List.map_toArray,List.map_cons,List.map_nil,e1,hrun]
   have hget:=splice_get c.toList news (o' + off + len * i.size)
   generalize hc':(c.toList.take (o' + off + len * i.size)++news++c.toList.drop (o' + off + len * i.size + news.length)).toArray=c' at hrun
   have hc's:c'.size=c.size:=by rw [← hc'];simp;omega
   obtain ⟨h1,h2,h3⟩:=hst.reuse (f:=f) (w':=w.setRow b c') (c':=c') (o':=o' + off) (cs':=olds++ns) hKr hp hh hf rfl rfl rfl (by simp) (fun b' hb'=>setRow_other w b b' c' hb') (setRow_heap w b c c' el (0,0) hh) hc's (fun j d hj=>by
    have hg2:c'[o' + off + j]?=if o' + off + j < o' + off + len * i.size then c[o' + off + j]? else if o' + off + j < o' + off + len * i.size + news.length then news[o' + off + j - (o' + off + len * i.size)]? else c[o' + off + j]?:=by
     rw [← hc']
     have:=hget (o' + off + j) (by simpa using hfit)
     simpa using this
    rw [hg2]
    rw [List.getElem?_append] at hj
    split at hj
    ·rename_i hlt
     obtain ⟨g1,u,g2,g3⟩:=hcs _ d (hv.2 j d hj)
     rw [hv.1] at hlt
     exact ⟨g1,u,by rw [if_pos (by omega),Nat.add_assoc];exact g2,g3⟩
    ·rename_i hge
     obtain ⟨g1,u,g2,g3⟩:=hns _ d hj
     have hlt:j - olds.length < news.length:=(List.getElem?_eq_some_iff.1 g2).1
     rw [hv.1] at hge hlt g2
     exact ⟨g1,u,by rw [if_neg (by omega),if_pos (by omega),show o' + off + j - (o' + off + len * i.size)=j - len * i.size from by omega];exact g2,g3⟩)
   refine ⟨_,_,h1,h2,?_⟩
   have hbz2:bsz (w.setRow b c') b=c.size + 1:=by rw [bsz_of (setRow_heap w b c c' el (0,0) hh),hc's]
   have:=Rep.osl (X:=X) (w:=w.setRow b c') (φ:=fun x=>if x=f then some (b,o' + off) else φ x) f 0 (len + m) i.size b (o' + off) cap h3 hroom (by rw [hbz2];omega)
   exact this
  ·subst hA
   have holdsAt:∀ (j:Nat) d,olds[j]?=some d→d.one=true∧∃ u,w.cell? ⟨b,o' + off + j,none⟩=some u∧Rep X w φ u d:=fun j d hj=>by
    obtain ⟨g1,u,g2,g3⟩:=hcs _ d (hv.2 j d hj)
    exact ⟨g1,u,by rw [cell_of hh,Nat.add_assoc];exact g2,g3⟩
   refine grow (by omega) ((List.range olds.length).map fun j=>(w.cell? ⟨b,o' + off + j,none⟩).getD undef) (by simp [hv.1]) ?_ fun j d hj=>?_
   ·refine run_firstCells_some (P:=P) w.drew i.size len _ len cap _ (by simp [hv.1]) fun j u hu=>?_
    rw [Addr.add_lit]
    have hlt:j < olds.length:=by have:=(List.getElem?_eq_some_iff.1 hu).1;simpa using this
    obtain ⟨_,u',g2,_⟩:=holdsAt j olds[j] (List.getElem?_eq_getElem hlt)
    simp [hlt,g2] at hu
    show w.cell? _=_
    rw [g2,hu]
   ·obtain ⟨g1,u,g2,g3⟩:=holdsAt j d hj
    have hlt:j < olds.length:=(List.getElem?_eq_some_iff.1 hj).1
    exact ⟨g1,u,by simp [hlt,g2],g3⟩
end
section
variable {P:Program} (Y:Tys P) (o:Oper) (E:Operand→Option AV) (L:HL) (N:Nat)
def srcE (tx:TypeId) (y:Operand) (sz:Nat):Option (Nat × List AV × List Nat):=match E y with
 | some (.osl r off m sz')=>match Y.tab tx with
  | some (.sl _,_,_,_)=>match lkH L r with
   | some cs=>match Nat.beq sz sz' with
    | true=>match tkE cs off (m * sz') with
     | some ns=>some (m,ns,[r])
     | none=>none
    | false=>none
   | none=>none
  | _=>none
 | some (.base (.string ⟨⟨s⟩⟩))=>match Y.tab tx with
  | some (.str,_,_,_)=>match Nat.beq sz 1 with
   | true=>some (s.length,s.map (fun b=>.base (.int .u8 (b.toNat:Int))),[])
   | false=>none
  | _=>none
 | some a=>match a.isl? with
  | some (ns,m)=>match Y.tab tx with
   | some (.sl _,_,_,_)=>match Nat.beq ns.length (m * sz) with
    | true=>some (m,ns,[])
    | false=>none
   | _=>none
  | none=>none
 | none=>none
theorem srcE_ok {tx:TypeId} {y:Operand} {sz m:Nat} {ns:List AV} {rd:List Nat} (h0:0 < sz) (h:srcE Y E L tx y sz=some (m,ns,rd)):SrcG P E (lkH L) tx y sz m ns rd:=by
 unfold srcE at h
 split at h<;>first|(cases h;done)|skip
 ·rename_i r off m' sz' hy
  split at h<;>first|(cases h;done)|skip
  rename_i e' s b z ht
  split at h<;>first|(cases h;done)|skip
  rename_i cs hl
  split at h<;>first|(cases h;done)|skip
  rename_i hs
  have:=Nat.eq_of_beq_eq_true hs
  subst this
  split at h<;>first|(cases h;done)|skip
  rename_i ns' hn
  simp only [Option.some.injEq,Prod.mk.injEq] at h
  obtain ⟨rfl,rfl,rfl⟩:=h
  exact (SrcAV.own hy hl (tkE_ok hn)).g (Y.ok _ _ _ _ _ ht) h0
 ·rename_i s hy
  split at h<;>first|(cases h;done)|skip
  rename_i s0 b z ht
  split at h<;>first|(cases h;done)|skip
  rename_i hs
  have:=Nat.eq_of_beq_eq_true hs
  subst this
  simp only [Option.some.injEq,Prod.mk.injEq] at h
  obtain ⟨rfl,rfl,rfl⟩:=h
  exact SrcG.str (s:=⟨⟨s⟩⟩) hy (Y.ok _ _ _ _ _ ht)
 ·rename_i a _ _ hy
  split at h<;>first|(cases h;done)|skip
  rename_i ns' m' ha
  split at h<;>first|(cases h;done)|skip
  rename_i e' s b z ht
  split at h<;>first|(cases h;done)|skip
  rename_i hl
  simp only [Option.some.injEq,Prod.mk.injEq] at h
  obtain ⟨rfl,rfl,rfl⟩:=h
  exact (SrcAV.isl hy ha (Nat.eq_of_beq_eq_true hl)).g (Y.ok _ _ _ _ _ ht) h0
def eAppend (t tx:TypeId) (x y:Operand):Option Res:=match Y.tab t with
 | some (.sl e,_,_,_)=>match Y.tab e with
  | some (_,sz,by',_)=>match Nat.blt 0 sz with
   | true=>match srcE Y E L tx y sz with
    | some (m,ns,rd)=>match E x with
     | some .nils=>match Nat.ble (m * by') 140737488355328 && Nat.ble m 1000000 && !memN rd N with
      | true=>some ⟨rd,[N],.osl N 0 m sz,(N,ns)::L⟩
      | false=>none
     | some (.osl r off len sz')=>match lkH L r with
      | some cs=>match Nat.beq sz sz' && Nat.ble ((len + m) * by') 140737488355328 && Nat.ble (len + m) 1000000 && !Nat.beq r N with
       | true=>match tkE cs off (len * sz) with
        | some olds=>some ⟨rd,[N,r],.osl N 0 (len + m) sz,(N,olds++ns)::delH L r⟩
        | none=>none
       | false=>none
      | none=>none
     | _=>none
    | none=>none
   | false=>none
  | none=>none
 | _=>none
theorem eAppend_ok {t tx:TypeId} {x y:Operand} {R:Res} (ho:o.op=.call { callee:=.builtin .append,args:=#[x,y],argTypes:=#[t,tx] }) (h:eAppend Y E L N t tx x y=some R):LO P o E (lkH L) N R.rd R.wr R.v (lkH R.L):=by
 unfold eAppend at h
 split at h<;>first|(cases h;done)|skip
 rename_i e s b z ht
 split at h<;>first|(cases h;done)|skip
 rename_i l sz by' z' he
 split at h<;>first|(cases h;done)|skip
 rename_i h0
 have h0:0 < sz:=by simpa using h0
 split at h<;>first|(cases h;done)|skip
 rename_i m ns rd hs
 have hs:=srcE_ok Y E L h0 hs
 split at h<;>first|(cases h;done)|skip
 ·rename_i hx
  split at h<;>first|(cases h;done)|skip
  rename_i hg
  simp only [Bool.and_eq_true,Nat.ble_eq,Bool.not_eq_true'] at hg
  injection h with h;subst h
  rw [lk_cons]
  exact .append_nilG ho hx hs (Y.ok _ _ _ _ _ ht) (Y.ok _ _ _ _ _ he) h0 hg.1.1 (by omega) (fun hm=>by rw [memN_iff.2 hm] at hg;cases hg.2)
 ·rename_i r off len sz' hx
  split at h<;>first|(cases h;done)|skip
  rename_i cs hl
  split at h<;>first|(cases h;done)|skip
  rename_i hg
  simp only [Bool.and_eq_true,Nat.ble_eq,Bool.not_eq_true'] at hg
  have:=Nat.eq_of_beq_eq_true hg.1.1.1
  subst this
  split at h<;>first|(cases h;done)|skip
  rename_i olds hv
  injection h with h;subst h
  rw [lk_cons,lk_del]
  exact .appendG ho hx hs hl (tkE_ok hv) (Y.ok _ _ _ _ _ ht) (Y.ok _ _ _ _ _ he) h0 hg.1.1.2 (by omega) (Nat.ne_of_beq_eq_false hg.2)
def eLen (t:TypeId) (x:Operand):Option Res:=match E x with
 | some (.osl _ _ len _)=>match Y.tab t with
  | some (.sl _,_,_,_)=>some ⟨[],[],.base (.int .i64 (len:Int)),L⟩
  | _=>none
 | some (.base (.string ⟨⟨s⟩⟩))=>match Y.tab t with
  | some (.str,_,_,_)=>some ⟨[],[],.base (.int .i64 (s.length:Int)),L⟩
  | _=>none
 | some a=>match a.isl? with
  | some (_,len)=>match Y.tab t with
   | some (.sl _,_,_,_)=>some ⟨[],[],.base (.int .i64 (len:Int)),L⟩
   | _=>none
  | none=>none
 | none=>none
theorem eLen_ok {t:TypeId} {x:Operand} {R:Res} (ho:o.op=.call { callee:=.builtin .len,args:=#[x],argTypes:=#[t] }) (h:eLen Y E L t x=some R):LO P o E (lkH L) N R.rd R.wr R.v (lkH R.L):=by
 unfold eLen at h
 split at h<;>first|(cases h;done)|skip
 ·rename_i r off len sz hx
  split at h<;>first|(cases h;done)|skip
  rename_i e s b z ht
  injection h with h;subst h
  exact .len ho hx (Y.ok _ _ _ _ _ ht)
 ·rename_i s hx
  split at h<;>first|(cases h;done)|skip
  rename_i s0 b z ht
  injection h with h;subst h
  exact .len_str (s:=⟨⟨s⟩⟩) ho hx (Y.ok _ _ _ _ _ ht)
 ·rename_i a _ _ hx
  split at h<;>first|(cases h;done)|skip
  rename_i cs len ha
  split at h<;>first|(cases h;done)|skip
  rename_i e s b z ht
  injection h with h;subst h
  exact .len_isl ho hx ha (Y.ok _ _ _ _ _ ht)
def eMinMax (mx:Bool) (x y:Operand):Option Res:=match E x,E y with
 | some (.base (.int k m)),some (.base (.int k' n))=>match kEq k k' with
  | true=>some ⟨[],[],.base (.int k (match mx with
   | true=>if m < n then n else m
   | false=>if n < m then n else m)),L⟩
  | false=>none
 | _,_=>none
theorem eMinMax_ok {mx:Bool} {x y:Operand} {T':Array TypeId} {R:Res} (ho:o.op=.call { callee:=.builtin (if mx then .max else .min),args:=#[x,y],argTypes:=T' }) (h:eMinMax E L mx x y=some R):LO P o E (lkH L) N R.rd R.wr R.v (lkH R.L):=by
 unfold eMinMax at h
 split at h<;>first|(cases h;done)|skip
 rename_i k m k' n hx hy
 split at h<;>first|(cases h;done)|skip
 rename_i hk
 have hk:k=k':=of_decide_eq_true hk
 subst hk
 injection h with h;subst h
 cases mx
 ·exact .min ho hx hy
 ·exact .max ho hx hy
end
section
variable {α β:Type}
def fNat (n:Nat) (k:Nat→β):β:=match n with
 | 0=>k 0
 | m + 1=>k (Nat.succ m)
theorem fNat_eq (n:Nat) (k:Nat→β):fNat n k=k n:=by cases n<;>rfl
def fInt (i:Int) (k:Int→β):β:=match i with
 | .ofNat n=>fNat n fun n=>k (.ofNat n)
 | .negSucc n=>fNat n fun n=>k (.negSucc n)
theorem fInt_eq (i:Int) (k:Int→β):fInt i k=k i:=by cases i<;>(unfold fInt;simp only [fNat_eq])
def fKind (q:IntKind) (k:IntKind→β):β:=match q with
 | .i8=>k .i8
 | .i16=>k .i16
 | .i32=>k .i32
 | .i64=>k .i64
 | .u8=>k .u8
 | .u16=>k .u16
 | .u32=>k .u32
 | .u64=>k .u64
theorem fKind_eq (q:IntKind) (k:IntKind→β):fKind q k=k q:=by cases q<;>rfl
def fBool (b:Bool) (k:Bool→β):β:=match b with
 | true=>k true
 | false=>k false
theorem fBool_eq (b:Bool) (k:Bool→β):fBool b k=k b:=by cases b<;>rfl
def fU8 (c:UInt8) (k:UInt8→β):β:=fNat c.toNat fun n=>k (UInt8.ofNat n)
theorem fU8_eq (c:UInt8) (k:UInt8→β):fU8 c k=k c:=by
 unfold fU8
 rw [fNat_eq]
 simp
def fList (f:α→(α→β)→β):List α→(List α→β)→β
 | [],k=>k []
 | a::l,k=>f a fun a=>fList f l fun l=>k (a::l)
theorem fList_eq {f:α→(α→β)→β} (hf:∀ a k,f a k=k a):∀ (l:List α) (k:List α→β),fList f l k=k l:=by
 intro l
 induction l with
 | nil=>intro k;rfl
 | cons a l ih=>intro k;unfold fList;rw [hf,ih]
def fSp (l:List α) (k:List α→β):β:=fList (fun a k=>k a) l k
theorem fSp_eq (l:List α) (k:List α→β):fSp l k=k l:=fList_eq (fun _ _=>rfl) l k
def fVal (v:Value) (k:Value→β):β:=match v with
 | .int q i=>fKind q fun q=>fInt i fun i=>k (.int q i)
 | .bool b=>fBool b fun b=>k (.bool b)
 | .string ⟨⟨l⟩⟩=>fList fU8 l fun l=>k (.string ⟨⟨l⟩⟩)
 | v=>k v
theorem fVal_eq (v:Value) (k:Value→β):fVal v k=k v:=by
 unfold fVal
 split
 ·rw [fKind_eq,fInt_eq]
 ·rw [fBool_eq]
 ·rw [fList_eq fU8_eq]
 ·rfl
def fAV0 (a:AV) (k:AV→β):β:=match a with
 | .base v=>fVal v fun v=>k (.base v)
 | .nils=>k .nils
 | .own r o=>fNat r fun r=>fNat o fun o=>k (.own r o)
 | .osl r o l s=>fNat r fun r=>fNat o fun o=>fNat l fun l=>fNat s fun s=>k (.osl r o l s)
 | .oslc r o l s e=>fNat r fun r=>fNat o fun o=>fNat l fun l=>fNat s fun s=>fNat e fun e=>k (.oslc r o l s e)
 | .oslt r o l s e=>fNat r fun r=>fNat o fun o=>fNat l fun l=>fNat s fun s=>fNat e fun e=>k (.oslt r o l s e)
 | .ownt r o e=>fNat r fun r=>fNat o fun o=>fNat e fun e=>k (.ownt r o e)
 | .mref r=>fNat r fun r=>k (.mref r)
 | .tyOf r t n=>fNat r fun r=>fNat t fun t=>fNat n fun n=>k (.tyOf r t n)
 | .cloo g r o=>fNat r fun r=>fNat o fun o=>k (.cloo g r o)
 | a=>k a
theorem fAV0_eq (a:AV) (k:AV→β):fAV0 a k=k a:=by
 unfold fAV0
 split<;>simp only [fNat_eq,fVal_eq]
def fAV1 (a:AV) (k:AV→β):β:=match a with
 | .isl cs n=>fList fAV0 cs fun cs=>fNat n fun n=>k (.isl cs n)
 | .imm cs n=>fNat n fun n=>k (.imm cs n)
 | .mpk t ks=>fNat t fun t=>fSp ks fun ks=>k (.mpk t ks)
 | a=>fAV0 a k
theorem fAV1_eq (a:AV) (k:AV→β):fAV1 a k=k a:=by
 unfold fAV1
 split<;>simp only [fNat_eq,fSp_eq,fAV0_eq,fList_eq (fAV0_eq (β:=β))]
def fAV2 (a:AV) (k:AV→β):β:=match a with
 | .agg cs=>fList fAV1 cs fun cs=>k (.agg cs)
 | a=>fAV1 a k
theorem fAV2_eq (a:AV) (k:AV→β):fAV2 a k=k a:=by
 unfold fAV2
 split<;>simp only [fAV1_eq,fList_eq (fAV1_eq (β:=β))]
def fAV (a:AV) (k:AV→β):β:=match a with
 | .tup cs=>fList fAV2 cs fun cs=>k (.tup cs)
 | a=>fAV2 a k
theorem fAV_eq (a:AV) (k:AV→β):fAV a k=k a:=by
 unfold fAV
 split<;>simp only [fAV2_eq,fList_eq (fAV2_eq (β:=β))]
def fBlk (wr:List Nat) (p:Nat × List AV) (k:Nat × List AV→β):β:=match p with
 | (r,cs)=>match memN wr r with
  | true=>fNat r fun r=>fList fAV1 cs fun cs=>k (r,cs)
  | false=>k (r,cs)
theorem fBlk_eq (wr:List Nat) (p:Nat × List AV) (k:Nat × List AV→β):fBlk wr p k=k p:=by
 obtain ⟨r,cs⟩:=p
 unfold fBlk
 cases h:memN wr r with
 | true=>simp only [h,fNat_eq,fList_eq (fAV1_eq (β:=β))]
 | false=>simp only [h]
def fHL (wr:List Nat) (L:HL) (k:HL→β):β:=match wr with
 | []=>k L
 | _::_=>fList (fBlk wr) L k
theorem fHL_eq (wr:List Nat) (L:HL) (k:HL→β):fHL wr L k=k L:=by
 unfold fHL
 split
 ·rfl
 ·exact fList_eq (fBlk_eq _) _ _
def fBlkA (p:Nat × List AV) (k:Nat × List AV→β):β:=match p with
 | (r,cs)=>fNat r fun r=>fList fAV1 cs fun cs=>k (r,cs)
theorem fBlkA_eq (p:Nat × List AV) (k:Nat × List AV→β):fBlkA p k=k p:=by
 obtain ⟨r,cs⟩:=p
 unfold fBlkA
 simp only [fNat_eq,fList_eq (fAV1_eq (β:=β))]
def fHLA (L:HL) (k:HL→β):β:=fList fBlkA L k
theorem fHLA_eq (L:HL) (k:HL→β):fHLA L k=k L:=fList_eq fBlkA_eq L k
end
end Go.Proofs.YtbfnfgpjgdbmeaaGreatDoor
