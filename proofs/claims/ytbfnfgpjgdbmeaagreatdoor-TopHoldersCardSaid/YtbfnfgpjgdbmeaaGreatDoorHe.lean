/-
  What is known of calls: by lists of calls that were carried out before; a call whose memory is given up. What only reads memory may be handed memory that is owned, and it stays owned. A table with an entry put in. Tables that are nil. What objects permit. Tables, nil or not, in one form; what is greatest among those that cover. The registry that is drawn. Types of functions, and of the orders that hold them. Ranges that ascend and do not touch (plain): what is left of a range without others; when nothing is left. What is outside of ranges that ascend does not meet them (plain). Addresses as places on one line (plain). Ranges put in order and joined (plain): they ascend and do not touch. When resources hold others (plain): what is left, and what meets the outside. Chains of certificates (plain): of the certificates with one key, that cover what one of them covers, there is one whose chain up to an anchor has no key twice; so it is short. Certificates that are trusted have chains (plain). The document's prefix of an address, as a number (plain): bits behind the length are cleared, nothing else changes. The last address and the halves of a prefix, as numbers (plain).
-/
import Derived.Test.YtbfnfgpjgdbmeaaGreatDoorVw
import Derived.Test.YtbfnfgpjgdbmeaaGreatDoorMab
import Derived.Test.YtbfnfgpjgdbmeaaGreatDoorVt
import Derived.Test.YtbfnfgpjgdbmeaaGreatDoorQe
import Derived.Test.YtbfnfgpjgdbmeaaGreatDoorGt
namespace Go.Proofs.YtbfnfgpjgdbmeaaGreatDoor
open Go.RowKit
def lstEq (f:AV→AV→Bool):List AV→List AV→Bool
 | [],[]=>true
 | a::l,b::m=>match f a b with
  | true=>lstEq f l m
  | false=>false
 | _,_=>false
theorem lstEq_ok {f:AV→AV→Bool} (hf:∀ a b,f a b=true→a=b):∀ {l m:List AV},lstEq f l m=true→l=m:=by
 intro l
 induction l with
 | nil=>intro m h;cases m with
  | nil=>rfl
  | cons=>cases h
 | cons a l ih=>intro m h;cases m with
  | nil=>cases h
  | cons b m =>
   unfold lstEq at h
   split at h
   ·rename_i hb;rw [hf _ _ hb,ih h]
   ·cases h
def avEq:Nat→AV→AV→Bool
 | 0,a,b=>avSame a b
 | n + 1,a,b=>match a,b with
  | .isl cs k,.isl cs' k'=>match Nat.beq k k' with
   | true=>lstEq (avEq n) cs cs'
   | false=>false
  | .imm cs k,.imm cs' k'=>match Nat.beq k k' with
   | true=>lstEq (avEq n) cs cs'
   | false=>false
  | .agg cs,.agg cs'=>lstEq (avEq n) cs cs'
  | .tup cs,.tup cs'=>lstEq (avEq n) cs cs'
  | a,b=>avSame a b
theorem avEq_ok:∀ (n:Nat) (a b:AV),avEq n a b=true→a=b:=by
 intro n
 induction n with
 | zero=>intro a b h;exact avSame_ok h
 | succ n ih =>
  intro a b h
  unfold avEq at h
  split at h
  ·split at h<;>first|(cases h;done)|skip
   rename_i hk
   rw [Nat.eq_of_beq_eq_true hk,lstEq_ok ih h]
  ·split at h<;>first|(cases h;done)|skip
   rename_i hk
   rw [Nat.eq_of_beq_eq_true hk,lstEq_ok ih h]
  ·rw [lstEq_ok ih h]
  ·rw [lstEq_ok ih h]
  ·exact avSame_ok h
def hlEq:HL→HL→Bool
 | [],[]=>true
 | (r,c)::l,(r',c')::m=>match Nat.beq r r' with
  | true=>match lstEq (avEq 6) c c' with
   | true=>hlEq l m
   | false=>false
  | false=>false
 | _,_=>false
theorem hlEq_ok:∀ {l m:HL},hlEq l m=true→l=m:=by
 intro l
 induction l with
 | nil=>intro m h;cases m with
  | nil=>rfl
  | cons=>cases h
 | cons p l ih=>intro m h;cases m with
  | nil=>cases h
  | cons q m =>
   obtain ⟨r,c⟩:=p
   obtain ⟨r',c'⟩:=q
   unfold hlEq at h
   split at h<;>first|(cases h;done)|skip
   rename_i hr
   split at h<;>first|(cases h;done)|skip
   rename_i hc
   rw [Nat.eq_of_beq_eq_true hr,lstEq_ok (avEq_ok 6) hc,ih h]
structure KnE where
 g:FuncId
 k:Nat
 args:List AV
 L:HL
 v:AV
 L':HL
def KnE.OK (P:Program) (e:KnE):Prop:=FnOK P e.g∧AFn P e.g e.k e.args (lkH e.L) e.v (lkH e.L')
def knL:List KnE→Rec
 | [],_,_,_,_=>none
 | e::l,g,k,args,L=>match Nat.beq e.g g with
  | true=>match Nat.beq e.k k && lstEq (avEq 6) e.args args && hlEq e.L L with
   | true=>some (e.v,e.L')
   | false=>knL l g k args L
  | false=>knL l g k args L
theorem knL_ok {P:Program}:∀ {l:List KnE},(∀ e,e∈l→e.OK P)→RecOK P (knL l):=by
 intro l
 induction l with
 | nil=>intro _ g k args L v L' h;cases h
 | cons e l ih =>
  intro hl g k args L v L' h
  unfold knL at h
  split at h
  ·rename_i hg
   have:=Nat.eq_of_beq_eq_true hg
   subst this
   split at h
   ·rename_i hq
    simp only [Bool.and_eq_true] at hq
    have e1:=Nat.eq_of_beq_eq_true hq.1.1
    have e2:=lstEq_ok (avEq_ok 6) hq.1.2
    have e3:=hlEq_ok hq.2
    simp only [Option.some.injEq,Prod.mk.injEq] at h
    obtain ⟨rfl,rfl⟩:=h
    obtain ⟨h1,h2⟩:=hl e (by simp)
    rw [e1,e2,e3] at h2
    exact ⟨h1,h2⟩
   ·exact ih (fun e he=>hl e (by simp [he])) _ _ _ _ _ _ h
  ·exact ih (fun e he=>hl e (by simp [he])) _ _ _ _ _ _ h
def knO (a b:Rec):Rec:=fun g k args L=>match a g k args L with
 | some r=>some r
 | none=>b g k args L
theorem knO_ok {P:Program} {a b:Rec} (ha:RecOK P a) (hb:RecOK P b):RecOK P (knO a b):=by
 intro g k args L v L' h
 unfold knO at h
 split at h
 ·rename_i r hr
  injection h with h;subst h
  exact ha _ _ _ _ _ _ hr
 ·exact hb _ _ _ _ _ _ h
def hlHas (L:HL):HL→Bool
 | []=>true
 | (r,c)::m=>match lkH L r with
  | some d=>match lstEq (avEq 6) c d with
   | true=>hlHas L m
   | false=>false
  | none=>false
theorem hlHas_ok {L:HL}:∀ {M:HL},hlHas L M=true→∀ r cs,lkH M r=some cs→lkH L r=some cs:=by
 intro M
 induction M with
 | nil=>intro _ r cs h;cases h
 | cons p m ih =>
  obtain ⟨k,c⟩:=p
  intro h r cs hr
  unfold hlHas at h
  split at h<;>first|(cases h;done)|skip
  rename_i d hd
  split at h<;>first|(cases h;done)|skip
  rename_i hc
  have:=lstEq_ok (avEq_ok 6) hc
  subst this
  unfold lkH at hr
  split at hr
  ·rename_i hb
   have:=Nat.eq_of_beq_eq_true hb
   subst this
   injection hr with hr
   rw [hd,hr]
  ·exact ih h r cs hr
def resHas (r:Option (AV × HL)) (v:AV) (L':HL):Bool:=match r with
 | some (u,L)=>match avEq 6 u v with
  | true=>hlHas L L'
  | false=>false
 | none=>false
theorem KnE.run {P:Program} (V:Env P) (f:Nat) (e:KnE) (h:resHas (runE V f e.g e.k e.args e.L) e.v e.L'=true):e.OK P:=by
 unfold resHas at h
 split at h<;>first|(cases h;done)|skip
 rename_i u L hr
 split at h<;>first|(cases h;done)|skip
 rename_i hv
 have:=avEq_ok 6 _ _ hv
 subst this
 obtain ⟨h1,h2⟩:=runE_ok V f _ _ _ _ _ _ hr
 exact ⟨h1,h2.drop (hlHas_ok h)⟩
def gvX (X:Nat→Prop) (K:Hp) (φ:Em):Nat→Prop:=fun b=>X b∧∀ r cs o,K r=some cs→φ r≠some (b,o)
inductive FzN (K:Hp):AV→AV→Prop
 | nils:FzN K .nils (.isl [] 0)
 | same {a:AV} (h:a.pure1=true):FzN K a a
 | osl {r off len sz:Nat} {cs vs vs':List AV} (hr:K r=some cs) (hv:Tk cs off (len * sz) vs) (hl:vs.length=vs'.length) (h1:∀ (i:Nat) b,vs'[i]?=some b→b.one=true) (h:∀ (i:Nat) a b,vs[i]?=some a→vs'[i]?=some b→FzN K a b):FzN K (.osl r off len sz) (.isl vs' len)
theorem FzN.rep {K:Hp} {a b:AV} (h:FzN K a b) {X:Nat→Prop} {φ:Em} {w:World} (hst:St X φ K w):∀ {v:Value},Rep X w φ v a→Rep (gvX X K φ) w mt v b:=by
 induction h with
 | nils =>
  intro v hr
  cases hr
  exact .isl0 _ _
 | same h =>
  intro v hr
  exact (hr.pure1 (φ':=mt) h).keep (Nat.le_refl _) (fun _ _ _=>rfl) (fun _ _=>rfl) (fun _ _ h=>h.1) (fun _ _ h=>h)
 | @osl r off len sz cs vs vs' hr hv hl h1 _ ih =>
  intro v hrep
  obtain ⟨A,cap,rfl,hc,⟨h2,h3⟩|⟨b,o,hp,rfl,hs⟩⟩:=hrep.osl_inv
  ·have:vs'=[]:=List.eq_nil_of_length_eq_zero (by rw [← hl,hv.1,h2];simp)
   subst this
   subst h2
   exact .isl0 _ _
  ·obtain ⟨c,e,hX,hh,hcs⟩:=hst.cells hr hp (by omega)
   have hat:∀ (i:Nat) d,vs[i]?=some d→∃ u,w.cell? ⟨b,o + off + i,none⟩=some u∧Rep X w φ u d:=fun i d hi=>by
    obtain ⟨_,u,g1,g2⟩:=hcs _ d (hv.2 i d hi)
    exact ⟨u,by rw [cell_of hh,Nat.add_assoc];exact g1,g2⟩
   refine .isl vs' len cap b (o + off) (fun i=>(w.cell? ⟨b,o + off + i,none⟩).getD undef) (lt_heap hh) (fun hx=>hx.2 r cs o hr hp) hc h1 (fun i d hi=>?_) fun i d hi=>?_
   ·have hlt:i < vs.length:=by rw [hl];exact (List.getElem?_eq_some_iff.1 hi).1
    obtain ⟨u,g1,_⟩:=hat i vs[i] (List.getElem?_eq_getElem hlt)
    rw [g1];rfl
   ·have hlt:i < vs.length:=by rw [hl];exact (List.getElem?_eq_some_iff.1 hi).1
    obtain ⟨u,g1,g2⟩:=hat i vs[i] (List.getElem?_eq_getElem hlt)
    rw [g1]
    exact ih i vs[i] d (List.getElem?_eq_getElem hlt) hi g2
def lstZ (f:AV→AV→Bool):List AV→List AV→Bool
 | [],[]=>true
 | a::l,b::m=>match f a b && b.one with
  | true=>lstZ f l m
  | false=>false
 | _,_=>false
theorem lstZ_ok {f:AV→AV→Bool} {Q:AV→AV→Prop} (hf:∀ a b,f a b=true→Q a b):∀ {l m:List AV},lstZ f l m=true→l.length=m.length∧(∀ (i:Nat) b,m[i]?=some b→b.one=true)∧∀ (i:Nat) a b,l[i]?=some a→m[i]?=some b→Q a b:=by
 intro l
 induction l with
 | nil=>intro m h;cases m with
  | nil=>exact ⟨rfl,fun i b h=>by simp at h,fun i a b h=>by simp at h⟩
  | cons=>cases h
 | cons a l ih=>intro m h;cases m with
  | nil=>cases h
  | cons b m =>
   unfold lstZ at h
   split at h<;>first|(cases h;done)|skip
   rename_i hb
   rw [Bool.and_eq_true] at hb
   obtain ⟨h1,h2,h3⟩:=ih h
   refine ⟨by simp [h1],fun i c hi=>?_,fun i c d hi hd=>?_⟩
   ·cases i with
    | zero=>simp at hi;subst hi;exact hb.2
    | succ i=>exact h2 i c (by simpa using hi)
   ·cases i with
    | zero=>simp at hi hd;subst hi hd;exact hf _ _ hb.1
    | succ i=>exact h3 i c d (by simpa using hi) (by simpa using hd)
def fzB (L:HL):Nat→AV→AV→Bool
 | 0,a,b=>avSame a b && a.pure1
 | n + 1,a,b=>match a,b with
  | .nils,.isl [] 0=>true
  | .osl r off len sz,.isl cs' len'=>match lkH L r with
   | some cs=>match tkE cs off (len * sz) with
    | some vs=>match Nat.beq len len' with
     | true=>lstZ (fzB L n) vs cs'
     | false=>false
    | none=>false
   | none=>false
  | a,b=>avSame a b && a.pure1
theorem fzB_ok (L:HL):∀ n a b,fzB L n a b=true→FzN (lkH L) a b:=by
 intro n
 induction n with
 | zero =>
  intro a b h
  unfold fzB at h
  rw [Bool.and_eq_true] at h
  rw [← avSame_ok h.1]
  exact .same h.2
 | succ n ih =>
  intro a b h
  unfold fzB at h
  split at h
  ·exact .nils
  ·split at h<;>first|(cases h;done)|skip
   rename_i cs hl
   split at h<;>first|(cases h;done)|skip
   rename_i vs hv
   split at h<;>first|(cases h;done)|skip
   rename_i hn
   have:=Nat.eq_of_beq_eq_true hn
   subst this
   obtain ⟨h1,h2,h3⟩:=lstZ_ok ih h
   exact .osl hl (tkE_ok hv) h1 h2 h3
  ·rw [Bool.and_eq_true] at h
   rw [← avSame_ok h.1]
   exact .same h.2
inductive FzA (K:Hp):AV→AV→Prop
 | one {a b:AV} (h:FzN K a b):FzA K a b
 | agg {cs cs':List AV} (hl:cs.length=cs'.length) (h1:∀ (i:Nat) b,cs'[i]?=some b→b.one=true) (h:∀ (i:Nat) a b,cs[i]?=some a→cs'[i]?=some b→FzN K a b):FzA K (.agg cs) (.agg cs')
theorem FzA.rep {K:Hp} {a b:AV} (h:FzA K a b) {X:Nat→Prop} {φ:Em} {w:World} {v:Value} (hst:St X φ K w) (hr:Rep X w φ v a):Rep (gvX X K φ) w mt v b:=by
 cases h with
 | one h=>exact h.rep hst hr
 | agg hl h1 h =>
  cases hr with
  | agg vs _ hl2 _ hh =>
   refine .agg vs _ (by omega) h1 fun i u c hu hc=>?_
   have hlt:i < _:=(List.getElem?_eq_some_iff.1 hc).1
   rw [← hl] at hlt
   exact (h i _ c (List.getElem?_eq_getElem hlt) hc).rep hst (hh i u _ hu (List.getElem?_eq_getElem hlt))
def fzAB (L:HL) (a b:AV):Bool:=match a,b with
 | .agg cs,.agg cs'=>lstZ (fzB L 6) cs cs'
 | a,b=>fzB L 6 a b
theorem fzAB_ok {L:HL} {a b:AV} (h:fzAB L a b=true):FzA (lkH L) a b:=by
 unfold fzAB at h
 split at h
 ·obtain ⟨h1,h2,h3⟩:=lstZ_ok (fzB_ok L 6) h
  exact .agg h1 h2 h3
 ·exact .one (fzB_ok L 6 _ _ h)
theorem AFn.give {P:Program} {g:FuncId} {k:Nat} {args args':List AV} {H:Hp} {v:AV} (h:AFn P g 0 args' mt v mt) (hv:v.pure=true) (hl:args.length=args'.length) (ha:∀ (i:Nat) a b,args[i]?=some a→args'[i]?=some b→FzA H a b):AFn P g k args H v mt:=by
 intro X φ w vals hs hR hst hφ
 have hst0:St (gvX X H φ) mt mt w:=⟨fun r cs hr=>(by cases hr),fun r r' cs cs' b o o' hr=>(by cases hr),hst.gl.sub fun _ h=>h.1⟩
 refine (h (gvX X H φ) mt w vals (by omega) (fun i x b hx hb=>?_) hst0 (fun _ _=>rfl)).mono ?_
 ·have hlt:i < args'.length:=(List.getElem?_eq_some_iff.1 hb).1
  rw [← hl] at hlt
  exact (ha i _ b (List.getElem?_eq_getElem hlt) hb).rep hst (hR i x _ hx (List.getElem?_eq_getElem hlt))
 rintro e w' ⟨x,X',φ',rfl,h1,h2,h3⟩
 refine ⟨x,X',φ,rfl,⟨h1.os,h1.tape,h1.output,h1.size,fun b hb _=>h1.same b hb fun r cs o hr=>(by cases hr),h1.bs,fun b hb hx=>(h1.xs b hb hx).1,fun b hb hx=>?_,fun _ _=>rfl,fun r cs b o hr=>(by cases hr)⟩,⟨fun r cs hr=>(by cases hr),fun r r' cs cs' b o o' hr=>(by cases hr),h2.gl⟩,h3.pure hv⟩
 by_cases ho:∃ r cs o,H r=some cs∧φ r=some (b,o)
 ·exact .inr ho
 ·refine (h1.xk b hb ⟨hx,fun r cs o hr hp=>ho ⟨r,cs,o,hr,hp⟩⟩).imp id fun ⟨r,cs,o,hr,_⟩=>by cases hr
theorem KnE.give {P:Program} {g:FuncId} {k:Nat} {a b:AV} {L:HL} {v:AV} (hF:FnOK P g) (h:AFn P g 0 [b] mt v mt) (hv:v.pure=true) (hz:fzAB L a b=true):KnE.OK P ⟨g,k,[a],L,v,[]⟩ :=
 ⟨hF,h.give hv rfl fun i x y hx hy=>by
  match i with
  | 0=>simp at hx hy;subst hx hy;exact fzAB_ok hz
  | i + 1=>simp at hx⟩
theorem objs_tk {l:List ObjR} {k:Nat} (h:k < l.length):Tk (objsC l) (k * 6) 6 (objC l[k]):=flat_tk (c:=objC) (fun _=>rfl) h
def intsC (l:List Int):List AV:=l.map fun z=>.base (.int .i64 z)
theorem intsC_len (l:List Int):(intsC l).length=l.length:=by simp [intsC]
theorem intsC_pure (l:List Int):(intsC l).all AV.pure1=true:=by
 induction l with
 | nil=>rfl
 | cons x l ih=>exact ih
theorem ints_tk {l:List Int} {n:Nat} (h:l.length=n):Tk (intsC l) 0 (n * 1) (intsC l):=by
 rw [Nat.mul_one,← h,← intsC_len l];exact Tk.all _
theorem objsC_app (a b:List ObjR):objsC (a++b)=objsC a++objsC b:=by simp [objsC]
theorem objs_all {l:List ObjR} {n:Nat} (h:l.length=n):Tk (objsC l) 0 (n * 6) (objsC l):=flatAll (c:=objC) (fun _=>rfl) h
theorem objsC_pure (l:List ObjR):(objsC l).all AV.pure1=true:=by
 induction l with
 | nil=>rfl
 | cons x l ih =>
  rw [show objsC (x::l)=objC x++objsC l from rfl,List.all_append,ih]
  rfl
theorem memR {α:Type} {p:α→Prop} {l:List α} {a:α} (h:∀ x∈l,p x) (ha:p a):∀ x∈l++[a],p x:=fun x hx=>by
 rcases List.mem_append.1 hx with h1|h1
 ·exact h x h1
 ·rw [List.mem_singleton] at h1;subst h1;exact ha
theorem nextC (l:List Int) (a:Nat) (n:Int) (h:1≤n) (h2:n≤9223372036854775807) (hl:l.length≤9223372036854775807):∃ x b:Nat,(x:Int) < n∧AFn Tryz.prog 21 1 [.own 0 0,.base (.int .i64 n)] (up mt 0 (some (deckC l a))) (.base (.int .i64 (x:Int))) (up mt 0 (some (deckC l b))):=by
 have hb:=nextV_bd l a n h
 have h1:=next_any l a n h h2 hl
 obtain ⟨x,hx⟩:∃ x:Nat,nextV l a n=(x:Int):=⟨(nextV l a n).toNat,by omega⟩
 rw [hx] at h1 hb
 exact ⟨x,_,hb.2,h1⟩
theorem ty81:TyOK Tryz.prog 81 (.other) 1 8 [.base .nilFunc]:=by unfold TyOK;kernel_rfl
theorem ty132:TyOK Tryz.prog 132 (.other) 1 8 [.base .nilFunc]:=by unfold TyOK;kernel_rfl
theorem ty29:TyOK Tryz.prog 29 (.other) 1 8 [.base .nilFunc]:=by unfold TyOK;kernel_rfl
theorem ty136:TyOK Tryz.prog 136 (.other) 1 8 [.base .nilFunc]:=by unfold TyOK;kernel_rfl
theorem ty134:TyOK Tryz.prog 134 (.st [(0,1,81),(1,1,132),(2,1,132)]) 3 24 [.base .nilFunc,.base .nilFunc,.base .nilFunc]:=by unfold TyOK;kernel_rfl
theorem ty138:TyOK Tryz.prog 138 (.st [(0,1,29),(1,1,136),(2,1,136)]) 3 24 [.base .nilFunc,.base .nilFunc,.base .nilFunc]:=by unfold TyOK;kernel_rfl
def topK:Int:=340282366920938463463374607436063178752
def fmK (k:Int):Bool:=decide (4294967296≤k)
structure NbR (nx pv:Int→Option Int):Prop where
 nx1:∀ k m,nx k=some m→m=k + 1
 nxf:∀ k m,nx k=some m→fmK m=fmK k
 nx0:∀ k,nx k=none→∀ m,m < topK→fmK m=fmK k→m≤k
 pv1:∀ k m,pv k=some m→m=k - 1
 pv0:∀ k,pv k=none→∀ m,0≤m→fmK m=fmK k→k≤m
def Asc (nx:Int→Option Int):List (Int × Int)→Prop
 | []=>True
 | [x]=>x.1≤x.2∧fmK x.1=fmK x.2
 | x::y::l=>(x.1≤x.2∧fmK x.1=fmK x.2)∧(x.2 < y.1∧nx x.2≠some y.1)∧Asc nx (y::l)
def mnX (nx pv:Int→Option Int):Int→Int→List (Int × Int)→List (Int × Int)
 | f,t,[]=>[(f,t)]
 | f,t,y::ys=>if y.2 < f∨y.1 > t then mnX nx pv f t ys else
  (match pv y.1 with
   | some l=>if f≤l then [(f,l)] else []
   | none=>[]) ++
  (match nx y.2 with
   | some n=>if n > t then [] else mnX nx pv n t ys
   | none=>[])
theorem Asc.tail {nx:Int→Option Int} {x:Int × Int} {l:List (Int × Int)} (h:Asc nx (x::l)):Asc nx l:=by
 cases l with
 | nil=>trivial
 | cons y l=>exact h.2.2
theorem Asc.hd {nx:Int→Option Int} {x:Int × Int} {l:List (Int × Int)} (h:Asc nx (x::l)):x.1≤x.2∧fmK x.1=fmK x.2:=by
 cases l with
 | nil=>exact h
 | cons y l=>exact h.1
theorem Asc.gt {nx:Int→Option Int}:∀ {l:List (Int × Int)} {x:Int × Int},Asc nx (x::l)→∀ y∈l,x.2 < y.1:=by
 intro l
 induction l with
 | nil=>intro x _ y hy;cases hy
 | cons z l ih =>
  intro x h y hy
  rcases List.mem_cons.1 hy with rfl|hy
  ·exact h.2.1.1
  ·have h1:=ih h.2.2 y hy
   have h2:=h.2.1.1
   have h3:=h.2.2.hd.1
   omega
theorem fm_mid {f t a b:Int} (h1:fmK f=fmK t) (h2:fmK a=fmK b) (h3:f≤b) (h4:a≤t) (_h5:f≤t) (_h6:a≤b):fmK f=fmK a:=by
 unfold fmK at *
 by_cases c1:4294967296≤f<;>by_cases c2:4294967296≤a
 ·simp [c1,c2]
 ·simp [c1,c2] at h1 h2;omega
 ·simp [c1,c2] at h1 h2;omega
 ·simp [c1,c2]
theorem mnX_nil {nx pv:Int→Option Int} (hn:NbR nx pv):∀ (ys:List (Int × Int)) (f t:Int),Asc nx ys→0≤f→t < topK→f≤t→fmK f=fmK t→mnX nx pv f t ys=[]→∃ y∈ys,y.1≤f∧t≤y.2:=by
 intro ys
 induction ys with
 | nil=>intro f t _ _ _ _ _ h;simp [mnX] at h
 | cons y ys ih =>
  intro f t ha h0 htop hft hfm h
  have hy:=ha.hd
  unfold mnX at h
  by_cases hc:y.2 < f∨y.1 > t
  ·rw [if_pos hc] at h
   obtain ⟨z,hz,h1⟩:=ih f t ha.tail h0 htop hft hfm h
   exact ⟨z,.tail _ hz,h1⟩
  ·rw [if_neg hc] at h
   obtain ⟨h1,h2⟩:=List.append_eq_nil_iff.1 h
   have hf1:f≤y.2:=by omega
   have hf2:y.1≤t:=by omega
   have hfa:=fm_mid hfm hy.2 hf1 hf2 hft hy.1
   have hyf:y.1≤f:=by
    cases hp:pv y.1 with
    | none=>exact hn.pv0 _ hp f h0 hfa
    | some l =>
     rw [hp] at h1
     have:=hn.pv1 _ _ hp
     simp only at h1
     split at h1
     ·cases h1
     ·omega
   refine ⟨y,.head _,hyf,?_⟩
   cases hq:nx y.2 with
   | none=>exact hn.nx0 _ hq t htop (by rw [← hfm,hfa,hy.2])
   | some n =>
    rw [hq] at h2
    have hn1:=hn.nx1 _ _ hq
    simp only at h2
    split at h2
    ·omega
    ·rename_i hnt
     exfalso
     have hfn:fmK n=fmK t:=by
      have:fmK y.2=fmK t:=by rw [← hfm,hfa,hy.2]
      unfold fmK at this ⊢
      by_cases c1:4294967296≤y.2
      ·have c2:4294967296≤t:=by omega
       have c3:4294967296≤n:=by omega
       simp [c2,c3]
      ·simp [c1] at this
       have c3:¬ 4294967296≤n:=by omega
       simp [this,c3]
     obtain ⟨z,hz,h3,h4⟩:=ih n t ha.tail (by omega) htop (by omega) hfn h2
     have h5:=ha.gt z hz
     cases ys with
     | nil=>cases hz
     | cons w ws =>
      have h6:=ha.2.1
      have h7:=ha.2.2.hd
      rcases List.mem_cons.1 hz with rfl|hz
      ·have:z.1=n:=by omega
       exact h6.2 (by rw [hq,this])
      ·have h8:=ha.2.2.gt z hz
       omega
def outL (nx:Int→Option Int) (fam:Bool) (last:Int):List (Int × Int)→Int→Bool→List (Int × Int)
 | [],fr,op=>if op=true then [(fr,last)] else []
 | x::l,fr,op=>if fmK x.1≠fam then outL nx fam last l fr op else
  (if fr < x.1 then [(fr,x.1 - 1)] else []) ++
  (match nx x.2 with
   | some n=>outL nx fam last l n true
   | none=>outL nx fam last l 0 false)
def Apart (x y:Int × Int):Prop:=x.2 < y.1∨y.2 < x.1
theorem outL_none {nx:Int→Option Int} (fam:Bool) (last:Int):∀ (l:List (Int × Int)) (fr:Int),(∀ x∈l,fmK x.1≠fam)→outL nx fam last l fr false=[]:=by
 intro l
 induction l with
 | nil=>intro fr _;rfl
 | cons x l ih =>
  intro fr h
  unfold outL
  rw [if_pos (h x (by simp))]
  exact ih fr fun z hz=>h z (.tail _ hz)
theorem outL_apart {nx pv:Int→Option Int} (hn:NbR nx pv) {fam:Bool} {last:Int} (hlf:fmK last=fam):∀ (l:List (Int × Int)) (fr:Int),Asc nx l→(∀ x∈l,x.1 < topK)→fmK fr=fam→(∀ x∈l,fmK x.1=fam→fr≤x.1)→∀ y∈outL nx fam last l fr true,fr≤y.1∧fmK y.1=fam∧fmK y.2=fam∧∀ x∈l,Apart x y:=by
 intro l
 induction l with
 | nil =>
  intro fr _ _ hfr _ y hy
  unfold outL at hy
  rw [if_pos rfl,List.mem_singleton] at hy
  subst hy
  exact ⟨Int.le_refl _,hfr,hlf,fun x hx=>by cases hx⟩
 | cons x l ih =>
  intro fr ha hto hfr hlo y hy
  have hto':∀ z∈l,z.1 < topK:=fun z hz=>hto z (.tail _ hz)
  have hx:=ha.hd
  unfold outL at hy
  by_cases hf:fmK x.1=fam
  rotate_left
  ·rw [if_pos hf] at hy
   obtain ⟨h1,h2,h3,h4⟩:=ih fr ha.tail hto' hfr (fun z hz=>hlo z (.tail _ hz)) y hy
   refine ⟨h1,h2,h3,fun z hz=>?_⟩
   rcases List.mem_cons.1 hz with rfl|hz
   ·-- the other family
    have hb:∀ {a b:Int},fmK a=fam→fmK b≠fam→a≠b:=fun h1 h2 e=>h2 (e ▸ h1)
    unfold Apart
    have hx2:fmK z.2≠fam:=by rw [← hx.2];exact hf
    unfold fmK at h2 h3 hf hx2
    by_cases c:4294967296≤y.1
    ·simp [c] at h2
     subst h2
     simp at hf hx2
     omega
    ·simp [c] at h2
     subst h2
     simp at hf hx2 h3
     omega
   ·exact h4 z hz
  rw [if_neg (fun h=>h hf)] at hy
  have hfx:=hlo x (by simp) hf
  rcases List.mem_append.1 hy with hy|hy
  ·split at hy
   ·rename_i hlt
    rw [List.mem_singleton] at hy
    subst hy
    refine ⟨Int.le_refl _,hfr,?_,fun z hz=>?_⟩
    ·show fmK (x.1 - 1)=fam
     unfold fmK at hf hfr ⊢
     by_cases c:4294967296≤fr
     ·have c2:4294967296≤x.1 - 1:=by omega
      rw [decide_eq_true c2];rw [decide_eq_true c] at hfr;exact hfr
     ·rw [decide_eq_false c] at hfr
      subst hfr
      have c2:¬ 4294967296≤x.1:=by simpa using hf
      exact decide_eq_false (by omega)
    ·unfold Apart
     rcases List.mem_cons.1 hz with rfl|hz
     ·right;show z.1 - 1 < z.1;omega
     ·have:=ha.gt z hz
      right;show x.1 - 1 < z.1;omega
   ·cases hy
  ·cases hq:nx x.2 with
   | none =>
    rw [hq] at hy
    have hno:∀ z∈l,fmK z.1≠fam:=fun z hz e=>by
     have h1:=ha.gt z hz
     have h2:=hn.nx0 _ hq z.1 (hto' z hz) (by rw [e,← hx.2,hf])
     omega
    simp only at hy
    rw [outL_none fam last l 0 hno] at hy
    cases hy
   | some n =>
    rw [hq] at hy
    simp only at hy
    have hn1:=hn.nx1 _ _ hq
    have hnf:fmK n=fam:=by rw [hn.nxf _ _ hq,← hx.2,hf]
    obtain ⟨h1,h2,h3,h4⟩:=ih n ha.tail hto' hnf (fun z hz _=>by have:=ha.gt z hz;omega) y hy
    have hx1:=hx.1
    refine ⟨by omega,h2,h3,fun z hz=>?_⟩
    rcases List.mem_cons.1 hz with rfl|hz
    ·left;omega
    ·exact h4 z hz
def CovR (a b:List (Int × Int)):Prop:=∀ x∈b,∃ y∈a,y.1≤x.1∧x.2≤y.2
theorem CovR.trans {a b c:List (Int × Int)} (h1:CovR a b) (h2:CovR b c):CovR a c:=fun x hx=>by
 obtain ⟨y,hy,h3,h4⟩:=h2 x hx
 obtain ⟨z,hz,h5,h6⟩:=h1 y hy
 exact ⟨z,hz,by omega,by omega⟩
theorem outL_cov {nx pv:Int→Option Int} (hn:NbR nx pv) {fam:Bool} {last fr:Int} (hlf:fmK last=fam) {l:List (Int × Int)} (ha:Asc nx l) (hto:∀ x∈l,x.1 < topK) (hfr:fmK fr=fam) (hlo:∀ x∈l,fmK x.1=fam→fr≤x.1) {x:Int × Int} (hx:∃ y∈l,y.1≤x.1∧x.2≤y.2):∀ y∈outL nx fam last l fr true,¬ (max x.1 y.1≤min x.2 y.2):=fun y hy=>by
 obtain ⟨z,hz,h1,h2⟩:=hx
 obtain ⟨_,_,_,h4⟩:=outL_apart hn hlf l fr ha hto hfr hlo y hy
 have:=h4 z hz
 unfold Apart at this
 omega
def plA (a:Ad):Int:=(if a.v6 then 4294967296 else 0) + (a.hi * 18446744073709551616 + a.lo)
structure AdOk (a:Ad):Prop where
 val:validA a.v6 a.hi a.lo=true
 hi:U64 a.hi
 lo:U64 a.lo
theorem AdOk.v4 {a:Ad} (h:AdOk a) (hv:a.v6=false):a.hi=0∧a.lo < 4294967296:=by
 have:=h.val
 unfold validA at this
 rw [hv] at this
 simpa using this
theorem plA_bd {a:Ad} (h:AdOk a):0≤plA a∧plA a < topK:=by
 have h1:=h.hi
 have h2:=h.lo
 unfold U64 at h1 h2
 unfold plA topK
 cases hv:a.v6 with
 | true=>rw [if_pos rfl];omega
 | false =>
  obtain ⟨h3,h4⟩:=h.v4 hv
  rw [if_neg (by simp)];omega
theorem plA_fm {a:Ad} (h:AdOk a):fmK (plA a)=a.v6:=by
 have h1:=h.hi
 have h2:=h.lo
 unfold U64 at h1 h2
 unfold fmK plA
 cases hv:a.v6 with
 | true=>rw [if_pos rfl];exact decide_eq_true (by omega)
 | false =>
  obtain ⟨h3,h4⟩:=h.v4 hv
  rw [if_neg (by simp)];exact decide_eq_false (by omega)
theorem plA_inj {a b:Ad} (ha:AdOk a) (hb:AdOk b) (h:plA a=plA b):a=b:=by
 have hv:a.v6=b.v6:=by rw [← plA_fm ha,← plA_fm hb,h]
 have h1:=ha.lo
 have h2:=hb.lo
 unfold U64 at h1 h2
 unfold plA at h
 rw [hv] at h
 obtain ⟨v,x,y⟩:=a
 obtain ⟨w,p,q⟩:=b
 simp only at hv h h1 h2
 subst hv
 have e1:x=p:=by omega
 have e2:y=q:=by omega
 rw [e1,e2]
theorem cmpA_pl {a b:Ad} (ha:AdOk a) (hb:AdOk b):cmpA a b=cmpI (plA a) (plA b):=by
 have h1:=ha.lo
 have h2:=hb.lo
 have h3:=ha.hi
 have h4:=hb.hi
 unfold U64 at h1 h2 h3 h4
 have fa:=plA_fm ha
 have fb':=plA_fm hb
 unfold cmpA famA
 by_cases hv:a.v6=b.v6
 ·rw [hv]
  have e0:∀ x:Int,cmpI x x=0:=fun x=>by unfold cmpI;rw [if_neg (by omega),if_neg (by omega)]
  rw [e0,show orI 0 (orI (cmpI a.hi b.hi) (cmpI a.lo b.lo))=orI (cmpI a.hi b.hi) (cmpI a.lo b.lo) from if_pos rfl]
  have e:plA a - plA b=(a.hi - b.hi) * 18446744073709551616 + (a.lo - b.lo):=by unfold plA;rw [hv];omega
  rcases Int.lt_trichotomy a.hi b.hi with h|h|h
  ·rw [show cmpI a.hi b.hi=-1 from if_pos h,show cmpI (plA a) (plA b)=-1 from if_pos (by omega)];rfl
  ·rw [h,e0,show orI 0 (cmpI a.lo b.lo)=cmpI a.lo b.lo from if_pos rfl]
   unfold cmpI
   rcases Int.lt_trichotomy a.lo b.lo with g|g|g
   ·rw [if_pos g,if_pos (by omega)]
   ·rw [if_neg (by omega),if_neg (by omega),if_neg (by omega),if_neg (by omega)]
   ·rw [if_neg (by omega),if_pos g,if_neg (by omega),if_pos (by omega)]
  ·rw [show cmpI a.hi b.hi=1 from by unfold cmpI;rw [if_neg (by omega),if_pos h],show cmpI (plA a) (plA b)=1 from by unfold cmpI;rw [if_neg (by omega),if_pos (by omega)]];rfl
 ·cases hva:a.v6 with
  | true =>
   have hvb:b.v6=false:=by cases h:b.v6 with
    | false=>rfl
    | true=>rw [hva,h] at hv;exact absurd rfl hv
   rw [hva] at fa
   rw [hvb] at fb'
   unfold fmK at fa fb'
   have g1:=of_decide_eq_true fa
   have g2:=of_decide_eq_false fb'
   rw [hvb,show cmpI (plA a) (plA b)=1 from by unfold cmpI;rw [if_neg (by omega),if_pos (by omega)]]
   rfl
  | false =>
   have hvb:b.v6=true:=by cases h:b.v6 with
    | true=>rfl
    | false=>rw [hva,h] at hv;exact absurd rfl hv
   rw [hva] at fa
   rw [hvb] at fb'
   unfold fmK at fa fb'
   have g1:=of_decide_eq_false fa
   have g2:=of_decide_eq_true fb'
   rw [hvb,show cmpI (plA a) (plA b)=-1 from if_pos (by omega)]
   rfl
def nxK (k:Int):Option Int:=if k=4294967295∨k=340282366920938463463374607436063178751 then none else some (k + 1)
def pvK (k:Int):Option Int:=if k=0∨k=4294967296 then none else some (k - 1)
theorem nbK:NbR nxK pvK where
 nx1:=fun k m h=>by unfold nxK at h;split at h;cases h;injection h with h;exact h.symm
 nxf:=fun k m h=>by
  unfold nxK at h
  split at h
  ·cases h
  ·injection h with h
   subst h
   unfold fmK
   by_cases c:4294967296≤k
   ·rw [decide_eq_true c,decide_eq_true (by omega)]
   ·rw [decide_eq_false c,decide_eq_false (by omega)]
 nx0:=fun k h m hm hf=>by
  unfold nxK at h
  split at h
  ·rename_i hk
   unfold fmK at hf
   unfold topK at hm
   rcases hk with rfl|rfl
   ·have:¬ 4294967296≤m:=by simpa using hf
    omega
   ·omega
  ·cases h
 pv1:=fun k m h=>by unfold pvK at h;split at h;cases h;injection h with h;exact h.symm
 pv0:=fun k h m hm hf=>by
  unfold pvK at h
  split at h
  ·rename_i hk
   unfold fmK at hf
   rcases hk with rfl|rfl
   ·exact hm
   ·simpa using hf
  ·cases h
def insR (x:Int × Int):List (Int × Int)→List (Int × Int)
 | []=>[x]
 | y::l=>if y.1≤x.1 then y::insR x l else x::y::l
def srtR:List (Int × Int)→List (Int × Int)→List (Int × Int)
 | s,[]=>s
 | s,x::l=>srtR (insR x s) l
def joinsR (y x:Int × Int):Bool:=decide (fmK y.2=fmK x.1) && (match nxK y.2 with
 | some n=>decide (x.1≤n)
 | none=>true)
def mgR:Int × Int→List (Int × Int)→List (Int × Int)
 | y,[]=>[y]
 | y,x::l=>if joinsR y x=true then mgR (y.1,max y.2 x.2) l else y::mgR x l
def rngR (l:List (Int × Int)):List (Int × Int):=match srtR [] l with
 | []=>[]
 | x::s=>mgR x s
def InF (x:Int × Int):Prop:=(x.1≤x.2∧fmK x.1=fmK x.2)∧0≤x.1∧x.2 < topK
def SrtR:List (Int × Int)→Prop
 | []=>True
 | x::l=>(∀ y∈l,x.1≤y.1)∧SrtR l
theorem insR_mem {x y:Int × Int}:∀ {s:List (Int × Int)},y∈insR x s↔y=x∨y∈s:=by
 intro s
 induction s with
 | nil=>simp [insR]
 | cons z s ih =>
  unfold insR
  split
  ·rw [List.mem_cons,ih,List.mem_cons]
   constructor
   ·rintro (h|h|h)
    ·exact .inr (.inl h)
    ·exact .inl h
    ·exact .inr (.inr h)
   ·rintro (h|h|h)
    ·exact .inr (.inl h)
    ·exact .inl h
    ·exact .inr (.inr h)
  ·rw [List.mem_cons]
theorem insR_len {x:Int × Int}:∀ {s:List (Int × Int)},(insR x s).length=s.length + 1:=by
 intro s
 induction s with
 | nil=>rfl
 | cons z s ih =>
  unfold insR
  split
  ·rw [List.length_cons,ih,List.length_cons]
  ·rfl
theorem insR_srt {x:Int × Int}:∀ {s:List (Int × Int)},SrtR s→SrtR (insR x s):=by
 intro s
 induction s with
 | nil=>intro _;exact ⟨fun y h=>(by cases h),trivial⟩
 | cons z s ih =>
  intro h
  unfold insR
  split
  ·rename_i hz
   refine ⟨fun y hy=>?_,ih h.2⟩
   rcases insR_mem.1 hy with rfl|hy
   ·exact hz
   ·exact h.1 y hy
  ·rename_i hz
   refine ⟨fun y hy=>?_,h⟩
   rcases List.mem_cons.1 hy with rfl|hy
   ·omega
   ·have:=h.1 y hy;omega
theorem srtR_srt:∀ {l s:List (Int × Int)},SrtR s→SrtR (srtR s l):=by
 intro l
 induction l with
 | nil=>intro s h;exact h
 | cons x l ih=>intro s h;exact ih (insR_srt h)
theorem srtR_mem {y:Int × Int}:∀ {l s:List (Int × Int)},y∈srtR s l↔y∈s∨y∈l:=by
 intro l
 induction l with
 | nil=>intro s;simp [srtR]
 | cons x l ih =>
  intro s
  unfold srtR
  rw [ih,insR_mem,List.mem_cons]
  constructor
  ·rintro ((h|h)|h)
   ·exact .inr (.inl h)
   ·exact .inl h
   ·exact .inr (.inr h)
  ·rintro (h|h|h)
   ·exact .inl (.inr h)
   ·exact .inl (.inl h)
   ·exact .inr h
theorem fm_max {a b c:Int} (h1:fmK a=fmK b) (h2:fmK a=fmK c):fmK a=fmK (max b c):=by
 rcases Int.le_total b c with h|h
 ·rw [Int.max_eq_right h];exact h2
 ·rw [Int.max_eq_left h];exact h1
theorem mgR_hd:∀ (l:List (Int × Int)) (y:Int × Int),∃ z t,mgR y l=z::t∧z.1=y.1:=by
 intro l
 induction l with
 | nil=>intro y;exact ⟨y,[],rfl,rfl⟩
 | cons x l ih =>
  intro y
  unfold mgR
  split
  ·obtain ⟨z,t,h1,h2⟩:=ih (y.1,max y.2 x.2)
   exact ⟨z,t,h1,h2⟩
  ·exact ⟨y,_,rfl,rfl⟩
theorem mgR_asc:∀ (l:List (Int × Int)) (y:Int × Int),InF y→(∀ z∈l,InF z)→(∀ z∈l,y.1≤z.1)→SrtR l→Asc nxK (mgR y l)∧∀ z∈mgR y l,InF z:=by
 intro l
 induction l with
 | nil =>
  intro y hy _ _ _
  exact ⟨hy.1,fun z hz=>by rw [show z=y from List.mem_singleton.1 hz];exact hy⟩
 | cons x l ih =>
  intro y hy hl hs hsr
  have hx:=hl x (by simp)
  have hyx:=hs x (by simp)
  have hl':∀ z∈l,InF z:=fun z hz=>hl z (.tail _ hz)
  unfold mgR
  split
  ·rename_i hj
   unfold joinsR at hj
   rw [Bool.and_eq_true,decide_eq_true_eq] at hj
   have hf:fmK y.1=fmK (max y.2 x.2):=fm_max hy.1.2 (by rw [hy.1.2,hj.1,hx.1.2])
   refine ih (y.1,max y.2 x.2) ⟨⟨?_,hf⟩,hy.2.1,?_⟩ hl' (fun z hz=>hs z (.tail _ hz)) hsr.2
   ·have:=hy.1.1;show y.1≤max y.2 x.2;omega
   ·have h1:=hy.2.2;have h2:=hx.2.2;show max y.2 x.2 < topK;omega
  ·rename_i hj
   obtain ⟨h1,h2⟩:=ih x hx hl' hsr.1 hsr.2
   obtain ⟨z,t,e1,e2⟩:=mgR_hd l x
   have hap:y.2 < z.1∧nxK y.2≠some z.1:=by
    rw [e2]
    have hj':joinsR y x=false:=by cases h:joinsR y x with
     | false=>rfl
     | true=>exact absurd h hj
    unfold joinsR at hj'
    by_cases hf:fmK y.2=fmK x.1
    ·rw [decide_eq_true hf,Bool.true_and] at hj'
     cases hn:nxK y.2 with
     | none=>rw [hn] at hj';cases hj'
     | some n =>
      rw [hn] at hj'
      have h3:=of_decide_eq_false hj'
      have h4:=nbK.nx1 _ _ hn
      refine ⟨by omega,fun e=>?_⟩
      injection e with e
      omega
    ·refine ⟨?_,fun e=>?_⟩
     ·have h3:=hy.1
      have h4:fmK y.1≠fmK x.1:=by rw [h3.2];exact hf
      have h5:=h3.2
      unfold fmK at h4 h5
      by_cases c1:4294967296≤y.1
      ·have c2:4294967296≤x.1:=by omega
       simp [c1,c2] at h4
      ·by_cases c2:4294967296≤x.1
       ·simp [c1] at h5
        omega
       ·simp [c1,c2] at h4
     ·exact hf (nbK.nxf _ _ e).symm
   refine ⟨?_,fun w hw=>?_⟩
   ·rw [e1] at h1 ⊢
    exact ⟨hy.1,hap,h1⟩
   ·rcases List.mem_cons.1 hw with rfl|hw
    ·exact hy
    ·exact h2 w hw
theorem rngR_asc {l:List (Int × Int)} (h:∀ z∈l,InF z):Asc nxK (rngR l)∧∀ z∈rngR l,InF z:=by
 unfold rngR
 have hs:=srtR_srt (l:=l) (s:=[]) trivial
 have hm:∀ z∈srtR [] l,InF z:=fun z hz=>by
  rcases srtR_mem.1 hz with h1|h1
  ·cases h1
  ·exact h z h1
 generalize srtR [] l=s at hs hm
 cases s with
 | nil=>exact ⟨trivial,fun z hz=>(by cases hz)⟩
 | cons x s=>exact mgR_asc s x (hm x (by simp)) (fun z hz=>hm z (.tail _ hz)) hs.1 hs.2
def minR (a b:List (Int × Int)):List (Int × Int):=a.flatMap fun x=>mnX nxK pvK x.1 x.2 b
theorem minR_nil {a b:List (Int × Int)} (hb:Asc nxK b) (ha:∀ x∈a,InF x) (h:minR a b=[]):CovR b a:=fun x hx=>by
 have h1:mnX nxK pvK x.1 x.2 b=[]:=List.flatMap_eq_nil_iff.1 h x hx
 have hi:=ha x hx
 exact mnX_nil nbK b x.1 x.2 hb hi.2.1 hi.2.2 hi.1.1 hi.1.2 h1
def mtX (x y:Int × Int):Option (Int × Int):=if fmK x.1=fmK y.1∧max x.1 y.1≤min x.2 y.2 then some (max x.1 y.1,min x.2 y.2) else none
def mtR (a b:List (Int × Int)):List (Int × Int):=a.flatMap fun x=>b.filterMap fun y=>mtX x y
def outR (l:List (Int × Int)):List (Int × Int):=outL nxK false 4294967295 l 0 true++outL nxK true 340282366920938463463374607436063178751 l 4294967296 true
theorem mtR_out {a b:List (Int × Int)} (ha:Asc nxK a) (hi:∀ x∈a,InF x) (h:CovR a b):mtR b (outR a)=[]:=by
 unfold mtR
 rw [List.flatMap_eq_nil_iff]
 intro x hx
 rw [List.filterMap_eq_nil_iff]
 intro y hy
 have hc:=h x hx
 have hto:∀ z∈a,z.1 < topK:=fun z hz=>by have:=hi z hz;have h1:=this.1.1;have h2:=this.2.2;omega
 unfold outR at hy
 have hno:¬ (max x.1 y.1≤min x.2 y.2):=by
  rcases List.mem_append.1 hy with hy|hy
  ·refine outL_cov nbK (by rfl) ha hto (by rfl) (fun z hz _=>(hi z hz).2.1) hc y hy
  ·refine outL_cov nbK (by rfl) ha hto (by rfl) (fun z hz hf=>?_) hc y hy
   unfold fmK at hf
   exact of_decide_eq_true hf
 unfold mtX
 rw [if_neg fun h=>hno h.2]
def outN:List (Int × Int)→Int→List (Int × Int)
 | [],fr=>if fr≤4294967295 then [(fr,4294967295)] else []
 | x::l,fr=>(if fr < x.1 then [(fr,x.1 - 1)] else [])++outN l (x.2 + 1)
theorem outN_apart:∀ (l:List (Int × Int)) (fr:Int),Asc nxK l→(∀ x∈l,fr≤x.1)→∀ y∈outN l fr,fr≤y.1∧∀ x∈l,Apart x y:=by
 intro l
 induction l with
 | nil =>
  intro fr _ _ y hy
  unfold outN at hy
  split at hy
  ·rw [List.mem_singleton] at hy;subst hy;exact ⟨Int.le_refl _,fun x hx=>by cases hx⟩
  ·cases hy
 | cons x l ih =>
  intro fr ha hlo y hy
  have hx:=ha.hd.1
  have hfx:=hlo x (by simp)
  unfold outN at hy
  rcases List.mem_append.1 hy with hy|hy
  ·split at hy
   ·rw [List.mem_singleton] at hy;subst hy
    refine ⟨Int.le_refl _,fun z hz=>?_⟩
    unfold Apart
    rcases List.mem_cons.1 hz with rfl|hz
    ·right;show z.1 - 1 < z.1;omega
    ·have:=ha.gt z hz
     right;show x.1 - 1 < z.1;omega
   ·cases hy
  ·obtain ⟨h1,h2⟩:=ih (x.2 + 1) ha.tail (fun z hz=>by have:=ha.gt z hz;omega) y hy
   refine ⟨by omega,fun z hz=>?_⟩
   rcases List.mem_cons.1 hz with rfl|hz
   ·left;omega
   ·exact h2 z hz
def InN (x:Int × Int):Prop:=x.1≤x.2∧0≤x.1∧x.2≤4294967295
theorem InN.f {x:Int × Int} (h:InN x):InF x:=by
 obtain ⟨h1,h2,h3⟩:=h
 refine ⟨⟨h1,?_⟩,h2,by unfold topK;omega⟩
 unfold fmK
 rw [decide_eq_false (by omega),decide_eq_false (by omega)]
def mtY (x y:Int × Int):Option (Int × Int):=if max x.1 y.1≤min x.2 y.2 then some (max x.1 y.1,min x.2 y.2) else none
def mtN (a b:List (Int × Int)):List (Int × Int):=a.flatMap fun x=>b.filterMap fun y=>mtY x y
theorem mtN_out {a b:List (Int × Int)} (ha:Asc nxK a) (hi:∀ x∈a,InN x) (h:CovR a b):mtN b (outN a 0)=[]:=by
 unfold mtN
 rw [List.flatMap_eq_nil_iff]
 intro x hx
 rw [List.filterMap_eq_nil_iff]
 intro y hy
 obtain ⟨z,hz,h1,h2⟩:=h x hx
 have h4:=(outN_apart a 0 ha (fun z hz=>(hi z hz).2.1) y hy).2 z hz
 unfold mtY
 rw [if_neg]
 unfold Apart at h4
 omega
theorem mtX_in {x y z:Int × Int} (hx:InF x) (hy:InF y) (h:mtX x y=some z):InF z:=by
 unfold mtX at h
 split at h
 ·rename_i hc
  injection h with h
  subst h
  obtain ⟨h1,h2⟩:=hc
  have a1:=hx.1.2
  have a2:=hy.1.2
  refine ⟨⟨h2,?_⟩,?_,?_⟩
  ·have e1:fmK (max x.1 y.1)=fmK x.1:=(fm_max rfl h1).symm
   rcases Int.le_total x.2 y.2 with c|c
   ·rw [Int.min_eq_left c,e1];exact a1
   ·rw [Int.min_eq_right c,e1,h1];exact a2
  ·have:=hx.2.1;show 0≤max x.1 y.1;omega
  ·have:=hx.2.2;show min x.2 y.2 < topK;omega
 ·cases h
theorem mtY_in {x y z:Int × Int} (hx:InN x) (_hy:InN y) (h:mtY x y=some z):InN z:=by
 unfold mtY at h
 split at h
 ·rename_i hc
  injection h with h
  subst h
  obtain ⟨a1,a2,a3⟩:=hx
  exact ⟨hc,by show 0≤max x.1 y.1;omega,by show min x.2 y.2≤4294967295;omega⟩
 ·cases h
def hasR (l:List (Int × Int)) (lo hi:Int):Bool:=l.any fun x=>decide (x.1≤lo) && decide (hi≤x.2)
theorem hasR_cov {a b:List (Int × Int)} {lo hi:Int} (h:CovR a b) (hb:hasR b lo hi=true):hasR a lo hi=true:=by
 unfold hasR at hb ⊢
 obtain ⟨x,hx,h1⟩:=List.any_eq_true.1 hb
 obtain ⟨y,hy,h2,h3⟩:=h x hx
 rw [Bool.and_eq_true,decide_eq_true_eq,decide_eq_true_eq] at h1
 exact List.any_eq_true.2 ⟨y,hy,by rw [Bool.and_eq_true,decide_eq_true_eq,decide_eq_true_eq];exact ⟨by omega,by omega⟩⟩
structure Rsc where
 ad:List (Int × Int)
 ns:List (Int × Int)
structure RscOk (r:Rsc):Prop where
 a:Asc nxK r.ad
 ai:∀ x∈r.ad,InF x
 al:r.ad.length≤256
 n:Asc nxK r.ns
 ni:∀ x∈r.ns,InN x
 nl:r.ns.length≤256
def rcP (a b:Rsc):Bool:=(minR b.ad a.ad).length + (minR b.ns a.ns).length == 0
def rcD (a b:Rsc):Bool:=(mtR b.ad (outR a.ad)).length == 0 && (mtN b.ns (outN a.ns 0)).length == 0
def RCov (a b:Rsc):Prop:=CovR a.ad b.ad∧CovR a.ns b.ns
theorem rcP_cov {a b:Rsc} (ha:RscOk a) (hb:RscOk b) (h:rcP a b=true):RCov a b:=by
 unfold rcP at h
 rw [beq_iff_eq] at h
 exact ⟨minR_nil ha.a hb.ai (List.length_eq_zero_iff.1 (by omega)),minR_nil ha.n (fun x hx=>(hb.ni x hx).f) (List.length_eq_zero_iff.1 (by omega))⟩
theorem rcD_cov {a b:Rsc} (ha:RscOk a) (h:RCov a b):rcD a b=true:=by
 unfold rcD
 rw [mtR_out ha.a ha.ai h.1,mtN_out ha.n ha.ni h.2]
 rfl
theorem RCov.trans {a b c:Rsc} (h1:RCov a b) (h2:RCov b c):RCov a c:=⟨h1.1.trans h2.1,h1.2.trans h2.2⟩
end Go.Proofs.YtbfnfgpjgdbmeaaGreatDoor
namespace Go.Proofs.YtbfnfgpjgdbmeaaGreatDoor
section
variable {C:Type} (key iss:C→Int) (fine anch:C→Prop) (cov:C→C→Prop)
inductive Ch:List C→Prop
 | one (c:C) (hf:fine c) (hi:iss c=key c) (ha:anch c):Ch [c]
 | cons (c d:C) (l:List C) (hf:fine c) (hi:iss c≠key c) (hk:key d=iss c) (hc:cov d c) (h:Ch (d::l)):Ch (c::d::l)
variable {key iss fine anch cov}
theorem Ch.fine_hd {c:C} {l:List C} (h:Ch key iss fine anch cov (c::l)):fine c:=by
 cases h with
 | one _ hf _ _=>exact hf
 | cons _ _ _ hf _ _ _ _=>exact hf
theorem Ch.tail_at (ht:∀ a b c,fine a→fine b→fine c→cov a b→cov b c→cov a c):∀ {l:List C} {c:C},Ch key iss fine anch cov (c::l)→∀ y∈l,cov y c∧∃ t,Ch key iss fine anch cov (y::t)∧(∃ p,l=p++y::t):=by
 intro l
 induction l with
 | nil=>intro c _ y hy;cases hy
 | cons d l ih =>
  intro c h y hy
  cases h with
  | cons _ _ _ hf hi hk hc h =>
   rcases List.mem_cons.1 hy with rfl|hy
   ·exact ⟨hc,l,h,[],rfl⟩
   ·obtain ⟨h1,t,h2,p,h3⟩:=ih h y hy
    exact ⟨ht y d c h2.fine_hd h.fine_hd hf h1 hc,t,h2,d::p,by rw [h3];rfl⟩
theorem Ch.short (ht:∀ a b c,fine a→fine b→fine c→cov a b→cov b c→cov a c):∀ {l:List C} {c:C},Ch key iss fine anch cov (c::l)→∃ c' l',key c'=key c∧(c'=c∨cov c' c)∧Ch key iss fine anch cov (c'::l')∧((c'::l').map key).Nodup∧∀ z∈c'::l',z∈c::l:=by
 intro l
 induction l with
 | nil=>intro c h;exact ⟨c,[],rfl,.inl rfl,h,by simp,fun z hz=>hz⟩
 | cons d l ih =>
  intro c h
  cases h with
  | cons _ _ _ hf hi hk hc h =>
   obtain ⟨d',l',e1,e2,e3,e4,e5⟩:=ih h
   have hc':cov d' c:=by
    rcases e2 with rfl|e2
    ·exact hc
    ·exact ht d' d c e3.fine_hd h.fine_hd hf e2 hc
   have hch:Ch key iss fine anch cov (c::d'::l'):=.cons c d' l' hf hi (e1.trans hk) hc' e3
   by_cases hin:key c∈(d'::l').map key
   ·obtain ⟨y,hy,ey⟩:=List.mem_map.1 hin
    obtain ⟨h1,t,h2,p,h3⟩:=hch.tail_at ht y hy
    refine ⟨y,t,ey,.inr h1,h2,?_,fun z hz=>?_⟩
    ·rw [h3,List.map_append] at e4
     exact (List.nodup_append.1 e4).2.1
    ·exact .tail _ (e5 z (by rw [h3];exact List.mem_append_right _ hz))
   ·refine ⟨c,d'::l',rfl,.inl rfl,hch,?_,fun z hz=>?_⟩
    ·rw [List.map_cons,List.nodup_cons];exact ⟨hin,e4⟩
    ·rcases List.mem_cons.1 hz with rfl|hz
     ·exact .head _
     ·exact .tail _ (e5 z hz)
end
theorem nodup_ints:∀ (n:Nat) (l:List Int),l.Nodup→(∀ z∈l,1≤z∧z≤n)→l.length≤n
 | 0,l,_,h=>by
  cases l with
  | nil=>exact Nat.le_refl _
  | cons a l=>exact absurd (h a (by simp)) (by omega)
 | n + 1,l,hn,h=>by
  have h1:=nodup_ints n (l.erase ((n:Int) + 1)) (hn.erase _) fun z hz=>by
   have h2:=h z (List.mem_of_mem_erase hz)
   have h3:z≠(n:Int) + 1:=fun e=>by subst e;exact hn.not_mem_erase hz
   omega
  have h2:l.length - 1≤(l.erase ((n:Int) + 1)).length:=List.le_length_erase
  omega
section
variable {C:Type} (key iss:C→Int) (cur anc:C→Bool) (cov:C→C→Bool) (certs:List C)
def chF:Nat→C→Nat→Bool
 | 0,_,_=>false
 | f + 1,c,d=>d != 0 && cur c && (anc c || certs.any fun x=>iss c != key c && key x == iss c && (iss x == key x || decide (1 < d)) && cov x c && chF f x (min (d - 1) 6))
variable {key iss cur anc cov certs}
theorem chF_ok {fine:C→Prop} {covP:C→C→Prop} (hcur:∀ c,fine c→cur c=true) (hcv:∀ a b,fine a→fine b→covP a b→cov a b=true):∀ (l:List C) (c:C) (f d:Nat),Ch key iss fine (fun c=>anc c=true) covP (c::l)→(∀ z∈c::l,z∈certs)→l.length < d→l.length≤6→l.length < f→chF key iss cur anc cov certs f c d=true:=by
 intro l
 induction l with
 | nil =>
  intro c f d h hm hd _ hf
  obtain ⟨f,rfl⟩:∃ k,f=k + 1:=⟨f - 1,by simp at hf;omega⟩
  cases h with
  | one _ hfi hi ha =>
   unfold chF
   have:(d != 0)=true:=by simp at hd ⊢;omega
   rw [this,hcur c hfi,ha]
   rfl
 | cons x l ih =>
  intro c f d h hm hd h6 hf
  have hl:(x::l).length=l.length + 1:=rfl
  rw [hl] at hd h6 hf
  obtain ⟨f,rfl⟩:∃ k,f=k + 1:=⟨f - 1,by omega⟩
  cases h with
  | cons _ _ _ hfi hi hk hc h =>
   unfold chF
   have h1:(d != 0)=true:=by simp;omega
   have hx:x∈certs:=hm x (by simp)
   have hrec:=ih x f (min (d - 1) 6) h (fun z hz=>hm z (.tail _ hz)) (by omega) (by omega) (by omega)
   rw [h1,hcur c hfi]
   have h2:(certs.any fun x=>iss c != key c && key x == iss c && (iss x == key x || decide (1 < d)) && cov x c && chF key iss cur anc cov certs f x (min (d - 1) 6))=true:=by
    rw [List.any_eq_true]
    refine ⟨x,hx,?_⟩
    have h3:decide (1 < d)=true:=decide_eq_true (by omega)
    rw [hrec,hcv x c h.fine_hd hfi hc,h3]
    simp [hi,hk]
   rw [h2]
   simp
theorem backed {fine:C→Prop} {covP:C→C→Prop} (hcur:∀ c,fine c→cur c=true) (hcv:∀ a b,fine a→fine b→covP a b→cov a b=true) (ht:∀ a b c,fine a→fine b→fine c→covP a b→covP b c→covP a c) (hkey:∀ z∈certs,1≤key z∧key z≤7) {c:C} {l:List C} (h:Ch key iss fine (fun c=>anc c=true) covP (c::l)) (hm:∀ z∈c::l,z∈certs) (f:Nat) (hf:7≤f) :
 ∃ c'∈certs,key c'=key c∧(c'=c∨covP c' c)∧fine c'∧chF key iss cur anc cov certs f c' 16=true:=by
 obtain ⟨c',l',h1,h2,h3,h4,h5⟩:=h.short ht
 have hm':∀ z∈c'::l',z∈certs:=fun z hz=>hm z (h5 z hz)
 have hlen:=nodup_ints 7 ((c'::l').map key) h4 fun z hz=>by
  obtain ⟨y,hy,rfl⟩:=List.mem_map.1 hz
  exact hkey y (hm' y hy)
 have h6:l'.length≤6:=by simpa using hlen
 exact ⟨c',hm' c' (by simp),h1,h2,h3.fine_hd,chF_ok hcur hcv l' c' f 16 h3 hm' (by omega) h6 (by omega)⟩
end
structure CertR where
 key:Int
 iss:Int
 fr:Int
 un:Int
 r:Rsc
def curC (now:Int) (c:CertR):Bool:=decide (c.fr≤now) && decide (now≤c.un)
def ancC (as_:List Int) (c:CertR):Bool:=as_.any fun a=>c.key == a && c.iss == a
def ChC (as_:List Int) (now:Int) (l:List CertR):Prop:=Ch CertR.key CertR.iss (fun c=>curC now c=true∧RscOk c.r) (fun c=>ancC as_ c=true) (fun a b=>RCov a.r b.r) l
def Tru (certs:List CertR) (as_:List Int) (now:Int) (c:CertR):Prop:=∃ l,ChC as_ now (c::l)∧∀ z∈c::l,z∈certs
structure CertOk (c:CertR):Prop where
 k1:1≤c.key
 k7:c.key≤7
 i1:1≤c.iss
 i7:c.iss≤7
 f0:0≤c.fr
 f9:c.fr≤100
 u0:0≤c.un
 u9:c.un≤100
 r:RscOk c.r
structure TrI (certs:List CertR) (as_:List Int) (now:Int) (out:List Bool):Prop where
 len:out.length=certs.length
 tr:∀ (i:Nat) c,certs[i]?=some c→out[i]?=some true→Tru certs as_ now c
theorem TrI.start (certs:List CertR) (as_:List Int) (now:Int):TrI certs as_ now (List.replicate certs.length false):=by
 refine ⟨by simp,fun i c _ h=>?_⟩
 rw [List.getElem?_replicate] at h
 split at h<;>cases h
theorem TrI.set {certs:List CertR} {as_:List Int} {now:Int} {out:List Bool} (h:TrI certs as_ now out) {k:Nat} (hk:k < certs.length) {v:Bool} (hv:v=true→Tru certs as_ now certs[k]):TrI certs as_ now (out.set k v):=by
 refine ⟨by rw [List.length_set];exact h.len,fun i c hc ho=>?_⟩
 by_cases e:k=i
 ·subst e
  rw [List.getElem?_set_self (by rw [h.len];exact hk)] at ho
  injection ho with ho
  rw [List.getElem?_eq_getElem hk] at hc
  injection hc with hc
  rw [← hc]
  exact hv ho
 ·rw [List.getElem?_set_ne e] at ho
  exact h.tr i c hc ho
def issB:List CertR→List Bool→CertR→Bool
 | [],_,_=>false
 | x::l,t,c=>(t.headD false && x.key == c.iss && rcP x.r c.r) || issB l t.tail c
theorem issB_at:∀ (l:List CertR) (t:List Bool) (c:CertR),issB l t c=true→∃ (i:Nat) (x:CertR),l[i]?=some x∧t[i]?=some true∧x.key=c.iss∧rcP x.r c.r=true:=by
 intro l
 induction l with
 | nil=>intro t c h;cases h
 | cons x l ih =>
  intro t c h
  unfold issB at h
  rw [Bool.or_eq_true] at h
  rcases h with h|h
  ·rw [Bool.and_eq_true,Bool.and_eq_true,beq_iff_eq] at h
   refine ⟨0,x,rfl,?_,h.1.2,h.2⟩
   cases t with
   | nil=>exact absurd h.1.1 (by simp)
   | cons b t=>rw [show b=true from h.1.1];rfl
  ·obtain ⟨i,y,h1,h2,h3⟩:=ih t.tail c h
   refine ⟨i + 1,y,h1,?_,h3⟩
   rw [List.getElem?_tail] at h2
   exact h2
theorem tru_one {certs:List CertR} {as_:List Int} {now:Int} {c:CertR} (hc:c∈certs) (hr:RscOk c.r) (h1:curC now c=true) (h2:c.iss=c.key) (h3:c.key∈as_):Tru certs as_ now c:=by
 refine ⟨[],.one c ⟨h1,hr⟩ h2 ?_,fun z hz=>by rw [show z=c from List.mem_singleton.1 hz];exact hc⟩
 exact List.any_eq_true.2 ⟨c.key,h3,by simp [h2]⟩
theorem tru_iss {certs:List CertR} {as_:List Int} {now:Int} {c:CertR} {t:List Bool} (hok:∀ z∈certs,RscOk z.r) (ht:TrI certs as_ now t) (hc:c∈certs) (h1:curC now c=true) (h2:c.iss≠c.key) (h3:issB certs t c=true):Tru certs as_ now c:=by
 obtain ⟨i,x,g1,g2,g3,g4⟩:=issB_at certs t c h3
 obtain ⟨l,k1,k2⟩:=ht.tr i x g1 g2
 have hx:x∈certs:=List.mem_of_getElem? g1
 refine ⟨x::l,.cons c x l ⟨h1,hok c hc⟩ h2 g3 (rcP_cov (hok x hx) (hok c hc) g4) k1,fun z hz=>?_⟩
 rcases List.mem_cons.1 hz with rfl|hz
 ·exact hc
 ·exact k2 z hz
def chB (certs:List CertR) (as_:List Int) (now:Int):Nat→CertR→Nat→Bool:=chF CertR.key CertR.iss (curC now) (ancC as_) (fun a b=>rcD a.r b.r) certs
theorem tru_back {certs:List CertR} {as_:List Int} {now:Int} (hok:∀ z∈certs,CertOk z) {c:CertR} (h:Tru certs as_ now c) {lo hi:Int} (hh:hasR c.r.ad lo hi=true) :
 ∃ c'∈certs,c'.key=c.key∧hasR c'.r.ad lo hi=true∧chB certs as_ now 17 c' 16=true:=by
 obtain ⟨l,h1,h2⟩:=h
 obtain ⟨c',g1,g2,g3,g4,g5⟩:=backed (certs:=certs) (cur:=curC now) (cov:=fun a b:CertR=>rcD a.r b.r) (fun c h=>h.1) (fun a b ha _ hc=>rcD_cov ha.2 hc) (fun a b c _ _ _ h1 h2=>h1.trans h2) (fun z hz=>⟨(hok z hz).k1,(hok z hz).k7⟩) h1 h2 17 (by decide)
 refine ⟨c',g1,g2,?_,g5⟩
 rcases g3 with rfl|g3
 ·exact hh
 ·exact hasR_cov g3.1 hh
end Go.Proofs.YtbfnfgpjgdbmeaaGreatDoor
namespace Go.Proofs.YtbfnfgpjgdbmeaaGreatDoor
open Go.RowKit
theorem valI_set {l:List Int} {q:Nat} (v:Int) (h:q < l.length):valI (l.set q v)=valI l + (v - gB l q) * 256 ^ (l.length - 1 - q):=by
 have hg:gB l q=l[q]:=by simp [gB,h]
 have e1:l=l.take q++(l[q]::l.drop (q + 1)):=by rw [← List.drop_eq_getElem_cons h,List.take_append_drop]
 have e2:l.set q v=l.take q++(v::l.drop (q + 1)):=List.set_eq_take_append_cons_drop.trans (if_pos h)
 have hd:(l.drop (q + 1)).length=l.length - 1 - q:=by rw [List.length_drop];omega
 have key:∀ x:Int,valI (l.take q++(x::l.drop (q + 1)))=valI (l.take q) * 256 ^ (l.length - 1 - q + 1) + (x * 256 ^ (l.length - 1 - q) + valI (l.drop (q + 1))):=fun x=>by
  rw [valI_app,show x::l.drop (q + 1)=[x]++l.drop (q + 1) from rfl,valI_app [x],List.length_append,hd,show [x].length=1 from rfl,Nat.add_comm 1]
  have h1:valI [x]=x:=by simp [valI]
  rw [h1]
 have k2:=key l[q]
 rw [← e1] at k2
 rw [e2,key,hg,k2,Int.sub_mul]
 omega
theorem clr_dec:∀ (x:Fin 256) (t:Fin 8),bitV .andNot .u8 (x.val:Int) ((128:Int).fdiv (2 ^ t.val))≤(x.val:Int)∧(x.val:Int) - 2 ^ (7 - t.val)≤bitV .andNot .u8 (x.val:Int) ((128:Int).fdiv (2 ^ t.val)):=by decide +kernel
theorem pow_split {len q t:Nat} (hq:q < len) (ht:t < 8):(2:Int) ^ (7 - t) * 256 ^ (len - 1 - q)=2 ^ (8 * len - 1 - (8 * q + t)):=by
 rw [show (256:Int)=2 ^ 8 from rfl,← Int.pow_mul,← Int.pow_add]
 congr 1
 omega
theorem clr_val {l:List Int} (hB:IsB l) {i:Nat} (hi:i < 8 * l.length):valI (chgL .andNot l i)≤valI l∧valI l - 2 ^ (8 * l.length - 1 - i)≤valI (chgL .andNot l i):=by
 have hq:i / 8 < l.length:=by omega
 unfold chgL
 rw [valI_set _ hq,bitAt_eq]
 have hx:=hB (l[i / 8]) (List.getElem_mem hq)
 have hg:gB l (i / 8)=l[i / 8]:=by simp [gB,hq]
 obtain ⟨x,hx2⟩:∃ x:Nat,gB l (i / 8)=(x:Int):=⟨(gB l (i / 8)).toNat,by rw [hg];omega⟩
 rw [hx2]
 have hx3:x < 256:=by rw [hg] at hx2;omega
 obtain ⟨h1,h2⟩:=clr_dec ⟨x,hx3⟩ ⟨i % 8,Nat.mod_lt _ (by decide)⟩
 dsimp only at h1 h2
 have hp:=pow_split hq (Nat.mod_lt i (by decide:0 < 8))
 rw [show 8 * (i / 8) + i % 8=i from by omega] at hp
 have hpos:(0:Int)≤256 ^ (l.length - 1 - i / 8):=Int.pow_nonneg (by decide)
 generalize bitV .andNot .u8 (x:Int) ((128:Int).fdiv (2 ^ (i % 8)))=y at h1 h2
 rw [← hp]
 generalize (256:Int) ^ (l.length - 1 - i / 8)=c at hpos
 generalize (2:Int) ^ (7 - i % 8)=d at h2
 have a1:(y - (x:Int)) * c≤0:=Int.mul_nonpos_of_nonpos_of_nonneg (by omega) hpos
 have a2:-(d * c)≤(y - (x:Int)) * c:=by
  rw [← Int.neg_mul]
  exact Int.mul_le_mul_of_nonneg_right (by omega) hpos
 omega
theorem clrs_val {l:List Int} (hB:IsB l) (n:Nat):∀ k,n + k≤8 * l.length→valI (chgs .andNot l n k)≤valI l∧valI l - (2 ^ (8 * l.length - n) - 2 ^ (8 * l.length - n - k))≤valI (chgs .andNot l n k):=by
 intro k
 induction k with
 | zero =>
  intro _
  refine ⟨Int.le_refl _,?_⟩
  show valI l - (_ - _)≤valI l
  rw [Nat.sub_zero]
  omega
 | succ k ih =>
  intro h
  obtain ⟨h1,h2⟩:=ih (by omega)
  have hl:=chgs_len .andNot l n k
  obtain ⟨h3,h4⟩:=clr_val (chgs_isB .andNot l n k hB) (i:=n + k) (by rw [hl];omega)
  rw [hl] at h4
  rw [chgs_snoc]
  have e:(2:Int) ^ (8 * l.length - n - k)=2 * 2 ^ (8 * l.length - n - (k + 1)):=by
   rw [show 8 * l.length - n - k=8 * l.length - n - (k + 1) + 1 from by omega,Int.pow_succ,Int.mul_comm]
  rw [show 8 * l.length - 1 - (n + k)=8 * l.length - n - (k + 1) from by omega] at h4
  omega
theorem div_nat {x y K:Nat} (hy:y < 2 ^ 64):x / 2 ^ (K - 64) * 2 ^ (K - 64) * 2 ^ 64 + y / 2 ^ (min K 64) * 2 ^ (min K 64)=(x * 2 ^ 64 + y) / 2 ^ K * 2 ^ K:=by
 rcases Nat.le_total K 64 with h|h
 ·rw [show K - 64=0 from by omega,Nat.min_eq_left h,Nat.pow_zero,Nat.div_one,Nat.mul_one]
  have e:x * 2 ^ 64=x * 2 ^ (64 - K) * 2 ^ K:=by rw [Nat.mul_assoc,← Nat.pow_add,show 64 - K + K=64 from by omega]
  rw [e,Nat.add_comm (x * 2 ^ (64 - K) * 2 ^ K) y,Nat.add_mul_div_right _ _ (Nat.two_pow_pos K),Nat.add_mul]
  omega
 ·rw [Nat.min_eq_right h,Nat.div_eq_of_lt hy,Nat.zero_mul,Nat.add_zero]
  have e:2 ^ K=2 ^ 64 * 2 ^ (K - 64):=by rw [← Nat.pow_add,show 64 + (K - 64)=K from by omega]
  have e2:(x * 2 ^ 64 + y) / 2 ^ 64=x:=by
   rw [Nat.add_comm,Nat.add_mul_div_right _ _ (Nat.two_pow_pos 64),Nat.div_eq_of_lt hy,Nat.zero_add]
  rw [e,← Nat.div_div_eq_div_mul,e2,Nat.mul_assoc,Nat.mul_comm (2 ^ (K - 64)) (2 ^ 64)]
theorem cast64 (p q:Nat):((p * 2 ^ 64 + q:Nat):Int)=(p:Int) * 18446744073709551616 + (q:Int):=by
 rw [Int.natCast_add,Int.natCast_mul];rfl
theorem mk_eq {a:Ad} {n:Nat} (hv:validA a.v6 a.hi a.lo=true) (h1:U64 a.hi) (h2:U64 a.lo) (hn:(n:Int)≤widthA a):(mkP a n).ad=clrA a ((widthA a).toNat - n):=by
 have hln:=addrL_len a
 have hw:widthA a=8 * ((addrL a).length:Int):=by
  unfold widthA
  rw [hln]
  cases a.v6<;>rfl
 have hl16:(addrL a).length≤16:=by rw [hln];cases a.v6<;>simp
 have hB0:=addrL_isB a
 have hB:IsB (mkL .andNot a n):=chgs_isB _ _ _ _ hB0
 have hlen:(mkL .andNot a n).length=(addrL a).length:=chgs_len _ _ _ _
 have hf:=fb_full hB (by omega)
 have hf0:=fb_full hB0 (by omega)
 have hfa:fb (addrL a)=(a.hi,a.lo):=fb_addrB hv h1 h2
 rw [hfa] at hf0
 obtain ⟨b1,b2⟩:=fb_bd (mkL .andNot a n)
 have hbits:∀ j,n≤j→j < 8 * (mkL .andNot a n).length→bitL (mkL .andNot a n) j=0:=fun j h1 h2=>clr_all hB0 n (8 * (addrL a).length - n) (by omega) j h1 (by rw [hlen] at h2;omega)
 obtain ⟨z,hz⟩:=low_val hB (n:=n) (by rw [hlen];omega) hbits
 obtain ⟨v1,v2⟩:=clrs_val hB0 n (8 * (addrL a).length - n) (by omega)
 rw [show chgs .andNot (addrL a) n (8 * (addrL a).length - n)=mkL .andNot a n from rfl] at v1 v2
 rw [Nat.sub_self,Int.pow_zero] at v2
 rw [hlen] at hz
 have hk:(widthA a).toNat - n=8 * (addrL a).length - n:=by omega
 rw [hk]
 obtain ⟨K,hK⟩:∃ K,8 * (addrL a).length - n=K:=⟨_,rfl⟩
 have hK2:K≤128:=by omega
 rw [hK] at hz v2 ⊢
 have hV':=valI_bd hB
 obtain ⟨x,hx⟩:=Int.eq_ofNat_of_zero_le h1.1
 obtain ⟨y,hy⟩:=Int.eq_ofNat_of_zero_le h2.1
 have hx64:x < 2 ^ 64:=by have:=h1.2;omega
 have hy64:y < 2 ^ 64:=by have:=h2.2;omega
 have hp:((2 ^ K:Nat):Int)=(2:Int) ^ K:=by simp
 have hp0:0 < 2 ^ K:=Nat.two_pow_pos K
 have hz0:0≤z:=by
  rcases Int.lt_or_le z 0 with h|h
  ·have:z * 2 ^ K < 0:=Int.mul_neg_of_neg_of_pos h (by rw [← hp];omega)
   omega
  ·exact h
 obtain ⟨zn,rfl⟩:=Int.eq_ofNat_of_zero_le hz0
 have hznk:((zn * 2 ^ K:Nat):Int)=(zn:Int) * 2 ^ K:=by rw [Int.natCast_mul,hp]
 rw [← hznk] at hz
 rw [← hp] at v2
 have hVn:((x * 2 ^ 64 + y:Nat):Int)=valI (addrL a):=by
  rw [← hf0]
  show ((x * 2 ^ 64 + y:Nat):Int)=a.hi * 18446744073709551616 + a.lo
  rw [hx,hy]
  omega
 have hdiv:(x * 2 ^ 64 + y) / 2 ^ K * 2 ^ K=zn * 2 ^ K:=by
  have hr:x * 2 ^ 64 + y - zn * 2 ^ K < 2 ^ K:=by omega
  have he:x * 2 ^ 64 + y=(x * 2 ^ 64 + y - zn * 2 ^ K) + zn * 2 ^ K:=by omega
  rw [he,Nat.add_mul_div_right _ _ hp0,Nat.div_eq_of_lt hr,Nat.zero_add]
 have hnat:=div_nat (x:=x) (K:=K) hy64
 rw [hdiv] at hnat
 have hc:clrA a K=⟨a.v6,((x / 2 ^ (K - 64) * 2 ^ (K - 64):Nat):Int),((y / 2 ^ (min K 64) * 2 ^ (min K 64):Nat):Int)⟩:=by
  unfold clrA mskH mskL
  rw [hx,hy,andNotU x _ hx64 (by omega),andNotU y _ hy64 (by omega)]
 rw [hc]
 have hlo:y / 2 ^ (min K 64) * 2 ^ (min K 64)≤y:=Nat.div_mul_le_self _ _
 generalize x / 2 ^ (K - 64) * 2 ^ (K - 64)=p at hnat
 generalize y / 2 ^ (min K 64) * 2 ^ (min K 64)=q at hnat hlo
 unfold U64 at b1 b2
 have hfin:(fb (mkL .andNot a n)).1 * 18446744073709551616 + (fb (mkL .andNot a n)).2=(p:Int) * 18446744073709551616 + (q:Int):=by
  rw [hf,hz,← hnat,cast64]
 show (⟨a.v6,(fb (mkL .andNot a n)).1,(fb (mkL .andNot a n)).2⟩:Ad)=⟨a.v6,(p:Int),(q:Int)⟩
 have g1:(fb (mkL .andNot a n)).1=(p:Int):=by omega
 have g2:(fb (mkL .andNot a n)).2=(q:Int):=by omega
 rw [g1,g2]
theorem or_dec:∀ (x:Fin 256) (t:Fin 8),bitN (x.val:Int) (7 - t.val)=0→bitV .or .u8 (x.val:Int) ((128:Int).fdiv (2 ^ t.val))=(x.val:Int) + 2 ^ (7 - t.val)∧∀ s:Fin 8,s.val≠7 - t.val→bitN (bitV .or .u8 (x.val:Int) ((128:Int).fdiv (2 ^ t.val))) s.val=bitN (x.val:Int) s.val:=by decide +kernel
theorem or_step {l:List Int} (hB:IsB l) {i:Nat} (hi:i < 8 * l.length) (h0:bitL l i=0):valI (chgL .or l i)=valI l + 2 ^ (8 * l.length - 1 - i)∧∀ j,j≠i→bitL (chgL .or l i) j=bitL l j:=by
 have hq:i / 8 < l.length:=by omega
 have hx:=hB.at (i / 8)
 obtain ⟨x,hxe⟩:∃ x:Fin 256,gB l (i / 8)=(x.val:Int):=⟨⟨(gB l (i / 8)).toNat,by omega⟩,by simp only;omega⟩
 have hb:bitN (x.val:Int) (7 - i % 8)=0:=by
  unfold bitL at h0
  rw [hxe] at h0
  exact h0
 obtain ⟨k1,k2⟩:=or_dec x ⟨i % 8,by omega⟩ hb
 simp only at k1 k2
 have hp:=pow_split hq (Nat.mod_lt i (by decide:0 < 8))
 rw [show 8 * (i / 8) + i % 8=i from by omega] at hp
 unfold chgL
 rw [hxe,bitAt_eq]
 refine ⟨?_,fun j hj=>?_⟩
 ·rw [valI_set _ hq,hxe,k1,← hp]
  rw [show (x.val:Int) + 2 ^ (7 - i % 8) - (x.val:Int)=2 ^ (7 - i % 8) from by omega]
 ·unfold bitL
  rw [gB_set1 hq]
  split
  ·rename_i e
   rw [e,hxe]
   exact k2 ⟨7 - j % 8,by omega⟩ (by simp only;omega)
  ·rfl
theorem ors_val {l:List Int} (hB:IsB l) (n:Nat) (hz:∀ j,n≤j→j < 8 * l.length→bitL l j=0):∀ k,n + k≤8 * l.length→valI (chgs .or l n k)=valI l + (2 ^ (8 * l.length - n) - 2 ^ (8 * l.length - n - k))∧∀ j,n + k≤j→j < 8 * l.length→bitL (chgs .or l n k) j=0:=by
 intro k
 induction k with
 | zero =>
  intro _
  refine ⟨?_,fun j h1 h2=>hz j h1 h2⟩
  show valI l=_
  rw [Nat.sub_zero]
  omega
 | succ k ih =>
  intro h
  obtain ⟨h1,h2⟩:=ih (by omega)
  have hl:=chgs_len .or l n k
  obtain ⟨h3,h4⟩:=or_step (chgs_isB .or l n k hB) (i:=n + k) (by rw [hl];omega) (h2 _ (Nat.le_refl _) (by omega))
  rw [hl] at h3
  rw [chgs_snoc]
  have e:(2:Int) ^ (8 * l.length - n - k)=2 * 2 ^ (8 * l.length - n - (k + 1)):=by
   rw [show 8 * l.length - n - k=8 * l.length - n - (k + 1) + 1 from by omega,Int.pow_succ,Int.mul_comm]
  rw [show 8 * l.length - 1 - (n + k)=8 * l.length - n - (k + 1) from by omega] at h3
  refine ⟨by omega,fun j hj1 hj2=>?_⟩
  rw [h4 j (by omega)]
  exact h2 j (by omega) hj2
theorem valI_inj:∀ (n:Nat) {a b:List Int},a.length=n→b.length=n→IsB a→IsB b→valI a=valI b→a=b:=by
 intro n
 induction n with
 | zero=>intro a b ha hb _ _ _;rw [List.length_eq_zero_iff.1 ha,List.length_eq_zero_iff.1 hb]
 | succ n ih =>
  intro a b ha hb hA hB h
  have ea:a≠[]:=fun e=>by rw [e] at ha;cases ha
  have eb:b≠[]:=fun e=>by rw [e] at hb;cases hb
  have da:=List.dropLast_concat_getLast ea
  have db:=List.dropLast_concat_getLast eb
  have xa:=hA _ (List.getLast_mem ea)
  have xb:=hB _ (List.getLast_mem eb)
  generalize a.getLast ea=x at da xa
  generalize b.getLast eb=y at db xb
  have la:a.dropLast.length=n:=by rw [List.length_dropLast];omega
  have lb:b.dropLast.length=n:=by rw [List.length_dropLast];omega
  have ha':IsB a.dropLast:=fun z hz=>hA z (List.dropLast_subset _ hz)
  have hb':IsB b.dropLast:=fun z hz=>hB z (List.dropLast_subset _ hz)
  rw [← da,← db,valI_app,valI_app] at h
  have e1:∀ z:Int,valI [z]=z:=fun z=>by simp [valI]
  rw [e1,e1] at h
  simp only [List.length_singleton] at h
  rw [show (256:Int) ^ 1=256 from by decide] at h
  have:=ih la lb ha' hb' (by omega)
  rw [← da,← db,this,show x=y from by omega]
def nmA (a:Ad):Int:=a.hi * 18446744073709551616 + a.lo
theorem nmA_val {a:Ad} (h:AdOk a):valI (addrL a)=nmA a:=by
 have hl16:(addrL a).length≤16:=by rw [addrL_len a];cases a.v6<;>simp
 have hf:=fb_full (addrL_isB a) hl16
 have hfa:fb (addrL a)=(a.hi,a.lo):=fb_addrB h.val h.hi h.lo
 rw [hfa] at hf
 exact hf.symm
theorem ok_bytes {v:Bool} {l:List Int} (hB:IsB l) (hl:l.length=if v then 16 else 4):AdOk ⟨v,(fb l).1,(fb l).2⟩∧nmA ⟨v,(fb l).1,(fb l).2⟩=valI l:=by
 have hl16:l.length≤16:=by rw [hl];cases v<;>simp
 have hf:=fb_full hB hl16
 obtain ⟨b1,b2⟩:=fb_bd l
 have hb:=valI_bd hB
 refine ⟨⟨?_,b1,b2⟩,hf⟩
 show validA v (fb l).1 (fb l).2=true
 unfold validA
 cases v with
 | true=>rfl
 | false =>
  rw [hl] at hb
  have h4:(256:Int) ^ (if false=true then 16 else 4)=4294967296:=by decide
  rw [h4,← hf] at hb
  unfold U64 at b1 b2
  have h0:(fb l).1=0:=by omega
  have h1:(fb l).2 < 4294967296:=by omega
  simp [h0,h1]
theorem PreOk.ad {p:Pre} (h:PreOk p):AdOk p.ad:=⟨h.val,h.hi,h.lo⟩
def frP (p:Pre):Nat:=(widthA p.ad).toNat - p.len.toNat
theorem wd_len (a:Ad):(widthA a).toNat=8 * (addrL a).length:=by
 rw [addrL_len]
 unfold widthA
 cases a.v6<;>rfl
theorem PreOk.mk_self {p:Pre} (h:PreOk p):addrL p.ad=mkL .andNot p.ad p.len.toNat:=by
 have hn:((p.len.toNat:Nat):Int)≤widthA p.ad:=by have:=h.le;have:=h.ge;omega
 have h1:=mk_eq h.val h.hi h.lo hn
 rw [h.clr] at h1
 have hB:IsB (mkL .andNot p.ad p.len.toNat):=chgs_isB _ _ _ _ (addrL_isB p.ad)
 have hlen:(mkL .andNot p.ad p.len.toNat).length=(addrL p.ad).length:=chgs_len _ _ _ _
 obtain ⟨h2,h3⟩:=ok_bytes (v:=p.ad.v6) hB (by rw [hlen,addrL_len])
 refine valI_inj _ rfl hlen (addrL_isB p.ad) hB ?_
 rw [nmA_val h.ad,← h3]
 exact congrArg nmA h1.symm
theorem PreOk.zeros {p:Pre} (h:PreOk p):∀ j,p.len.toNat≤j→j < 8 * (addrL p.ad).length→bitL (addrL p.ad) j=0:=fun j h1 h2=>by
 rw [h.mk_self]
 have hw:=wd_len p.ad
 have hle:=h.le
 have hge:=h.ge
 exact clr_all (addrL_isB p.ad) p.len.toNat (8 * (addrL p.ad).length - p.len.toNat) (by omega) j h1 (by omega)
theorem PreOk.dvd {p:Pre} (h:PreOk p):∃ z:Int,nmA p.ad=z * 2 ^ frP p:=by
 have hw:=wd_len p.ad
 have hle:=h.le
 have hge:=h.ge
 obtain ⟨z,hz⟩:=low_val (addrL_isB p.ad) (n:=p.len.toNat) (by omega) h.zeros
 rw [nmA_val h.ad,← hw] at hz
 exact ⟨z,hz⟩
theorem plA_nm (a:Ad):plA a=(if a.v6 then 4294967296 else 0) + nmA a:=rfl
def lstA (p:Pre):Ad:=mkAd .or p.ad p.len.toNat
theorem PreOk.last {p:Pre} (h:PreOk p):AdOk (lstA p)∧(lstA p).v6=p.ad.v6∧plA (lstA p)=plA p.ad + 2 ^ frP p - 1:=by
 have hw:=wd_len p.ad
 have hle:=h.le
 have hge:=h.ge
 have hB:IsB (mkL .or p.ad p.len.toNat):=chgs_isB _ _ _ _ (addrL_isB p.ad)
 have hlen:(mkL .or p.ad p.len.toNat).length=(addrL p.ad).length:=chgs_len _ _ _ _
 obtain ⟨h2,h3⟩:=ok_bytes (v:=p.ad.v6) hB (by rw [hlen,addrL_len])
 refine ⟨h2,rfl,?_⟩
 obtain ⟨h4,_⟩:=ors_val (addrL_isB p.ad) p.len.toNat h.zeros (8 * (addrL p.ad).length - p.len.toNat) (by omega)
 rw [Nat.sub_self,Int.pow_zero,nmA_val h.ad] at h4
 rw [plA_nm,plA_nm]
 have e:nmA (lstA p)=nmA p.ad + (2 ^ frP p - 1):=by
  unfold frP
  rw [hw,← h4]
  exact h3
 rw [e,show (lstA p).v6=p.ad.v6 from rfl]
 omega
theorem pok_of {a:Ad} {n:Int} (ha:AdOk a) (h0:0≤n) (h1:n≤widthA a) (hd:∃ z:Int,nmA a=z * 2 ^ ((widthA a).toNat - n.toNat)):PreOk ⟨a,n⟩:=by
 refine ⟨ha.val,ha.hi,ha.lo,h0,h1,?_⟩
 have hw:(widthA a).toNat≤128:=by unfold widthA;cases a.v6<;>decide
 refine clr_id ha.hi ha.lo (Nat.le_trans (Nat.sub_le _ _) hw) ?_
 obtain ⟨z,hz⟩:=hd
 have b1:=ha.hi
 have b2:=ha.lo
 unfold U64 at b1 b2
 unfold nmA at hz
 have e:((a.hi.toNat * 2 ^ 64 + a.lo.toNat:Nat):Int)=z * 2 ^ ((widthA a).toNat - n.toNat):=by
  rw [← hz]
  omega
 have h2:((2 ^ ((widthA a).toNat - n.toNat):Nat):Int)=(2:Int) ^ ((widthA a).toNat - n.toNat):=by simp
 have:(2 ^ ((widthA a).toNat - n.toNat):Nat) ∣ a.hi.toNat * 2 ^ 64 + a.lo.toNat:=by
  rw [← Int.natCast_dvd_natCast,e,h2]
  exact ⟨z,Int.mul_comm _ _⟩
 exact Nat.mod_eq_zero_of_dvd this
def upA (p:Pre):Ad:=⟨p.ad.v6,(fb (chgL .or (addrL p.ad) p.len.toNat)).1,(fb (chgL .or (addrL p.ad) p.len.toNat)).2⟩
theorem PreOk.halves {p:Pre} (h:PreOk p) (hl:p.len < widthA p.ad):PreOk ⟨p.ad,p.len + 1⟩∧PreOk ⟨upA p,p.len + 1⟩∧(upA p).v6=p.ad.v6∧plA (upA p)=plA p.ad + 2 ^ (frP p - 1)∧1≤frP p∧frP ⟨p.ad,p.len + 1⟩=frP p - 1∧frP ⟨upA p,p.len + 1⟩=frP p - 1:=by
 have hw:=wd_len p.ad
 have hge:=h.ge
 have hwu:widthA (upA p)=widthA p.ad:=rfl
 have hB:IsB (chgL .or (addrL p.ad) p.len.toNat):=chgs_isB .or (addrL p.ad) p.len.toNat 1 (addrL_isB p.ad)
 have hlen:(chgL .or (addrL p.ad) p.len.toNat).length=(addrL p.ad).length:=chgs_len .or (addrL p.ad) p.len.toNat 1
 obtain ⟨h2,h3⟩:=ok_bytes (v:=p.ad.v6) hB (by rw [hlen,addrL_len])
 obtain ⟨h4,_⟩:=or_step (addrL_isB p.ad) (i:=p.len.toNat) (by omega) (h.zeros _ (Nat.le_refl _) (by omega))
 obtain ⟨z,hz⟩:=h.dvd
 have hf:frP p=(frP p - 1) + 1:=by unfold frP;omega
 have hfe:8 * (addrL p.ad).length - 1 - p.len.toNat=frP p - 1:=by unfold frP;omega
 have hfn:(widthA p.ad).toNat - (p.len + 1).toNat=frP p - 1:=by unfold frP;omega
 rw [hfe,nmA_val h.ad] at h4
 have hu:nmA (upA p)=nmA p.ad + 2 ^ (frP p - 1):=by rw [← h4];exact h3
 have hpw:(2:Int) ^ frP p=2 * 2 ^ (frP p - 1):=by
  conv=>lhs;rw [hf]
  rw [Int.pow_succ,Int.mul_comm]
 have hz2:nmA p.ad=z * 2 * 2 ^ (frP p - 1):=by rw [hz,hpw,Int.mul_assoc]
 refine ⟨pok_of h.ad (by omega) (by omega) ⟨z * 2,by rw [hfn];exact hz2⟩,pok_of h2 (by omega) (by show p.len + 1≤widthA p.ad;omega) ⟨z * 2 + 1,?_⟩,rfl,?_,by omega,hfn,hfn⟩
 ·show nmA (upA p)=_ * 2 ^ ((widthA p.ad).toNat - (p.len + 1).toNat)
  rw [hfn,hu,hz2,Int.add_mul,Int.one_mul]
 ·rw [plA_nm,plA_nm,hu,show (upA p).v6=p.ad.v6 from rfl]
  omega
theorem orU (x j:Nat) (hx:x < 2 ^ 64) (hj:j≤64) (hd:x % 2 ^ j=0):bitV .or .u64 (x:Int) ((2 ^ j - 1:Nat):Int)=((x + (2 ^ j - 1):Nat):Int):=by
 have e1:(BitVec.ofInt 64 (x:Int)).toNat=x:=by rw [BitVec.ofInt_natCast,BitVec.toNat_ofNat];exact Nat.mod_eq_of_lt hx
 have hm:2 ^ j≤2 ^ 64:=Nat.pow_le_pow_right (by decide) hj
 have hp:=Nat.two_pow_pos j
 have e2:(BitVec.ofInt 64 ((2 ^ j - 1:Nat):Int)).toNat=2 ^ j - 1:=by rw [BitVec.ofInt_natCast,BitVec.toNat_ofNat];exact Nat.mod_eq_of_lt (by omega)
 obtain ⟨c,hc⟩:=Nat.dvd_of_mod_eq_zero hd
 have hor:x ||| (2 ^ j - 1)=x + (2 ^ j - 1):=by
  rw [hc,← Nat.two_pow_add_eq_or_of_lt (by omega)]
 have hlt:x + (2 ^ j - 1) < 2 ^ 64:=by
  rw [← hor]
  exact Nat.or_lt_two_pow hx (by omega)
 show IntKind.u64.wrap ((BitVec.ofInt 64 (x:Int) ||| BitVec.ofInt 64 ((2 ^ j - 1:Nat):Int)).toNat:Int)=_
 rw [BitVec.toNat_or,e1,e2,hor,IntKind.wrap_u64]
 omega
def orA (a:Ad) (k:Nat):Ad:=⟨a.v6,bitV .or .u64 a.hi (mskH k),bitV .or .u64 a.lo (mskL k)⟩
theorem PreOk.last_or {p:Pre} (h:PreOk p):orA p.ad (frP p)=lstA p:=by
 obtain ⟨l1,l2,l3⟩:=h.last
 obtain ⟨z,hz⟩:=h.dvd
 have hw:(widthA p.ad).toNat≤128:=by unfold widthA;cases p.ad.v6<;>decide
 have hk:frP p≤128:=by unfold frP;omega
 have c1:=h.hi
 have c2:=h.lo
 have d1:=l1.hi
 have d2:=l1.lo
 rw [plA_nm,plA_nm,l2] at l3
 have l4:nmA (lstA p)=nmA p.ad + 2 ^ frP p - 1:=by omega
 unfold U64 at c1 c2 d1 d2
 obtain ⟨x,hx⟩:=Int.eq_ofNat_of_zero_le c1.1
 obtain ⟨y,hy⟩:=Int.eq_ofNat_of_zero_le c2.1
 have hx64:x < 2 ^ 64:=by omega
 have hy64:y < 2 ^ 64:=by omega
 have hclr:=h.clr
 generalize hK:frP p=K at *
 rw [show (widthA p.ad).toNat - p.len.toNat=K from hK] at hclr
 have hnat:=div_nat (x:=x) (K:=K) hy64
 unfold clrA mskH mskL at hclr
 rw [hx,hy,andNotU x _ hx64 (by omega),andNotU y _ hy64 (by omega)] at hclr
 have e1:x / 2 ^ (K - 64) * 2 ^ (K - 64)=x:=by
  have:=congrArg Ad.hi hclr
  simp only at this
  rw [hx] at this
  omega
 have e2:y / 2 ^ (min K 64) * 2 ^ (min K 64)=y:=by
  have:=congrArg Ad.lo hclr
  simp only at this
  rw [hy] at this
  omega
 have m1:x % 2 ^ (K - 64)=0:=by rw [← e1];exact Nat.mul_mod_left _ _
 have m2:y % 2 ^ (min K 64)=0:=by rw [← e2];exact Nat.mul_mod_left _ _
 unfold orA mskH mskL
 rw [hx,hy,orU x _ hx64 (by omega) m1,orU y _ hy64 (by omega) m2]
 have o1:x + (2 ^ (K - 64) - 1) < 2 ^ 64:=by
  have:=orU x (K - 64) hx64 (by omega) m1
  have hb:bitV .or .u64 (x:Int) ((2 ^ (K - 64) - 1:Nat):Int) < 18446744073709551616:=by
   show IntKind.u64.wrap _ < _
   rw [IntKind.wrap_u64]
   omega
  omega
 have o2:y + (2 ^ (min K 64) - 1) < 2 ^ 64:=by
  have:=orU y (min K 64) hy64 (by omega) m2
  have hb:bitV .or .u64 (y:Int) ((2 ^ (min K 64) - 1:Nat):Int) < 18446744073709551616:=by
   show IntKind.u64.wrap _ < _
   rw [IntKind.wrap_u64]
   omega
  omega
 have hpow:(2 ^ (K - 64) - 1) * 2 ^ 64 + (2 ^ (min K 64) - 1)=2 ^ K - 1:=by
  rcases Nat.le_total K 64 with h|h
  ·rw [show K - 64=0 from by omega,Nat.min_eq_left h,Nat.pow_zero,Nat.sub_self,Nat.zero_mul,Nat.zero_add]
  ·rw [Nat.min_eq_right h]
   have e:2 ^ K=2 ^ (K - 64) * 2 ^ 64:=by rw [← Nat.pow_add,show K - 64 + 64=K from by omega]
   have h1:=Nat.two_pow_pos (K - 64)
   have h2:=Nat.two_pow_pos 64
   rw [e]
   generalize 2 ^ (K - 64)=c at h1
   generalize 2 ^ 64=d at h2
   obtain ⟨c,rfl⟩:∃ k,c=k + 1:=⟨c - 1,by omega⟩
   rw [Nat.add_sub_cancel,Nat.add_mul,Nat.one_mul]
   omega
 have hp:((2 ^ K:Nat):Int)=(2:Int) ^ K:=by simp
 have hp0:=Nat.two_pow_pos K
 have l5:(lstA p).hi * 18446744073709551616 + (lstA p).lo=((x + (2 ^ (K - 64) - 1):Nat):Int) * 18446744073709551616 + ((y + (2 ^ (min K 64) - 1):Nat):Int):=by
  have:nmA (lstA p)=((x * 2 ^ 64 + y + ((2 ^ (K - 64) - 1) * 2 ^ 64 + (2 ^ (min K 64) - 1)):Nat):Int):=by
   rw [hpow,l4]
   unfold nmA
   rw [hx,hy,← hp]
   omega
  unfold nmA at this
  rw [this]
  generalize 2 ^ (K - 64) - 1=u
  generalize 2 ^ (min K 64) - 1=v
  omega
 generalize x + (2 ^ (K - 64) - 1)=u at *
 generalize y + (2 ^ (min K 64) - 1)=v at *
 have g1:(lstA p).hi=(u:Int):=by omega
 have g2:(lstA p).lo=(v:Int):=by omega
 have:lstA p=⟨(lstA p).v6,(lstA p).hi,(lstA p).lo⟩:=rfl
 rw [this,g1,g2,l2]
def adOf (k:Int):Ad:=if k < 4294967296 then ⟨false,0,k⟩ else ⟨true,(k - 4294967296) / 18446744073709551616,(k - 4294967296) % 18446744073709551616⟩
theorem adOf_ok {k:Int} (h0:0≤k) (h1:k < topK):AdOk (adOf k)∧plA (adOf k)=k:=by
 unfold topK at h1
 unfold adOf
 split
 ·rename_i h
  refine ⟨⟨?_,⟨Int.le_refl 0,(by decide:(0:Int) < 18446744073709551616)⟩,⟨h0,by show k < _;omega⟩⟩,?_⟩
  ·unfold validA;simp;exact h
  ·unfold plA;simp
 ·rename_i h
  refine ⟨⟨rfl,⟨?_,?_⟩,⟨?_,?_⟩⟩,?_⟩
  ·show 0≤(k - 4294967296) / 18446744073709551616;omega
  ·show (k - 4294967296) / 18446744073709551616 < _;omega
  ·show 0≤(k - 4294967296) % 18446744073709551616;omega
  ·show (k - 4294967296) % 18446744073709551616 < _;omega
  ·unfold plA
   simp only [if_true]
   omega
theorem adOf_pl {a:Ad} (h:AdOk a):adOf (plA a)=a:=by
 obtain ⟨h1,h2⟩:=plA_bd h
 obtain ⟨h3,h4⟩:=adOf_ok h1 h2
 exact plA_inj h3 h h4
end Go.Proofs.YtbfnfgpjgdbmeaaGreatDoor
