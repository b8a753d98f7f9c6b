/-
  What is known of calls: by lists of calls that were carried out before; a call whose memory is given up. What only reads memory may be handed memory that is owned, and it stays owned. A table with an entry put in. Tables that are nil. What objects permit. Tables, nil or not, in one form; what is greatest among those that cover.
-/
import Derived.Test.YtndbhhgmpjjjhaaGreatDoorVw
import Derived.Test.YtndbhhgmpjjjhaaGreatDoorMab
import Derived.Test.YtndbhhgmpjjjhaaGreatDoorVt
namespace Go.Proofs.YtndbhhgmpjjjhaaGreatDoor
open Go.RowKit
def lstEq (f:AV→AV→Bool):List AV→List AV→Bool
 | [],[]=>true
 | a::l,b::m=>match f a b with
  | true=>lstEq f l m
  | false=>false
 | _,_=>false
theorem lstEq_ok {f:AV→AV→Bool} (hf:∀ a b,f a b=true→a=b):∀ {l m:List AV},lstEq f l m=true→l=m:=by
 intro l
 induction l with
 | nil=>intro m h;cases m with
  | nil=>rfl
  | cons=>cases h
 | cons a l ih=>intro m h;cases m with
  | nil=>cases h
  | cons b m =>
   unfold lstEq at h
   split at h
   ·rename_i hb;rw [hf _ _ hb,ih h]
   ·cases h
def avEq:Nat→AV→AV→Bool
 | 0,a,b=>avSame a b
 | n + 1,a,b=>match a,b with
  | .isl cs k,.isl cs' k'=>match Nat.beq k k' with
   | true=>lstEq (avEq n) cs cs'
   | false=>false
  | .imm cs k,.imm cs' k'=>match Nat.beq k k' with
   | true=>lstEq (avEq n) cs cs'
   | false=>false
  | .agg cs,.agg cs'=>lstEq (avEq n) cs cs'
  | .tup cs,.tup cs'=>lstEq (avEq n) cs cs'
  | a,b=>avSame a b
theorem avEq_ok:∀ (n:Nat) (a b:AV),avEq n a b=true→a=b:=by
 intro n
 induction n with
 | zero=>intro a b h;exact avSame_ok h
 | succ n ih =>
  intro a b h
  unfold avEq at h
  split at h
  ·split at h<;>first|(cases h;done)|skip
   rename_i hk
   rw [Nat.eq_of_beq_eq_true hk,lstEq_ok ih h]
  ·split at h<;>first|(cases h;done)|skip
   rename_i hk
   rw [Nat.eq_of_beq_eq_true hk,lstEq_ok ih h]
  ·rw [lstEq_ok ih h]
  ·rw [lstEq_ok ih h]
  ·exact avSame_ok h
def hlEq:HL→HL→Bool
 | [],[]=>true
 | (r,c)::l,(r',c')::m=>match Nat.beq r r' with
  | true=>match lstEq (avEq 6) c c' with
   | true=>hlEq l m
   | false=>false
  | false=>false
 | _,_=>false
theorem hlEq_ok:∀ {l m:HL},hlEq l m=true→l=m:=by
 intro l
 induction l with
 | nil=>intro m h;cases m with
  | nil=>rfl
  | cons=>cases h
 | cons p l ih=>intro m h;cases m with
  | nil=>cases h
  | cons q m =>
   obtain ⟨r,c⟩:=p
   obtain ⟨r',c'⟩:=q
   unfold hlEq at h
   split at h<;>first|(cases h;done)|skip
   rename_i hr
   split at h<;>first|(cases h;done)|skip
   rename_i hc
   rw [Nat.eq_of_beq_eq_true hr,lstEq_ok (avEq_ok 6) hc,ih h]
structure KnE where
 g:FuncId
 k:Nat
 args:List AV
 L:HL
 v:AV
 L':HL
def KnE.OK (P:Program) (e:KnE):Prop:=FnOK P e.g∧AFn P e.g e.k e.args (lkH e.L) e.v (lkH e.L')
def knL:List KnE→Rec
 | [],_,_,_,_=>none
 | e::l,g,k,args,L=>match Nat.beq e.g g with
  | true=>match Nat.beq e.k k && lstEq (avEq 6) e.args args && hlEq e.L L with
   | true=>some (e.v,e.L')
   | false=>knL l g k args L
  | false=>knL l g k args L
theorem knL_ok {P:Program}:∀ {l:List KnE},(∀ e,e∈l→e.OK P)→RecOK P (knL l):=by
 intro l
 induction l with
 | nil=>intro _ g k args L v L' h;cases h
 | cons e l ih =>
  intro hl g k args L v L' h
  unfold knL at h
  split at h
  ·rename_i hg
   have:=Nat.eq_of_beq_eq_true hg
   subst this
   split at h
   ·rename_i hq
    simp only [Bool.and_eq_true] at hq
    have e1:=Nat.eq_of_beq_eq_true hq.1.1
    have e2:=lstEq_ok (avEq_ok 6) hq.1.2
    have e3:=hlEq_ok hq.2
    simp only [Option.some.injEq,Prod.mk.injEq] at h
    obtain ⟨rfl,rfl⟩:=h
    obtain ⟨h1,h2⟩:=hl e (by simp)
    rw [e1,e2,e3] at h2
    exact ⟨h1,h2⟩
   ·exact ih (fun e he=>hl e (by simp [he])) _ _ _ _ _ _ h
  ·exact ih (fun e he=>hl e (by simp [he])) _ _ _ _ _ _ h
def knO (a b:Rec):Rec:=fun g k args L=>match a g k args L with
 | some r=>some r
 | none=>b g k args L
theorem knO_ok {P:Program} {a b:Rec} (ha:RecOK P a) (hb:RecOK P b):RecOK P (knO a b):=by
 intro g k args L v L' h
 unfold knO at h
 split at h
 ·rename_i r hr
  injection h with h;subst h
  exact ha _ _ _ _ _ _ hr
 ·exact hb _ _ _ _ _ _ h
def hlHas (L:HL):HL→Bool
 | []=>true
 | (r,c)::m=>match lkH L r with
  | some d=>match lstEq (avEq 6) c d with
   | true=>hlHas L m
   | false=>false
  | none=>false
theorem hlHas_ok {L:HL}:∀ {M:HL},hlHas L M=true→∀ r cs,lkH M r=some cs→lkH L r=some cs:=by
 intro M
 induction M with
 | nil=>intro _ r cs h;cases h
 | cons p m ih =>
  obtain ⟨k,c⟩:=p
  intro h r cs hr
  unfold hlHas at h
  split at h<;>first|(cases h;done)|skip
  rename_i d hd
  split at h<;>first|(cases h;done)|skip
  rename_i hc
  have:=lstEq_ok (avEq_ok 6) hc
  subst this
  unfold lkH at hr
  split at hr
  ·rename_i hb
   have:=Nat.eq_of_beq_eq_true hb
   subst this
   injection hr with hr
   rw [hd,hr]
  ·exact ih h r cs hr
def resHas (r:Option (AV × HL)) (v:AV) (L':HL):Bool:=match r with
 | some (u,L)=>match avEq 6 u v with
  | true=>hlHas L L'
  | false=>false
 | none=>false
theorem KnE.run {P:Program} (V:Env P) (f:Nat) (e:KnE) (h:resHas (runE V f e.g e.k e.args e.L) e.v e.L'=true):e.OK P:=by
 unfold resHas at h
 split at h<;>first|(cases h;done)|skip
 rename_i u L hr
 split at h<;>first|(cases h;done)|skip
 rename_i hv
 have:=avEq_ok 6 _ _ hv
 subst this
 obtain ⟨h1,h2⟩:=runE_ok V f _ _ _ _ _ _ hr
 exact ⟨h1,h2.drop (hlHas_ok h)⟩
def gvX (X:Nat→Prop) (K:Hp) (φ:Em):Nat→Prop:=fun b=>X b∧∀ r cs o,K r=some cs→φ r≠some (b,o)
inductive FzN (K:Hp):AV→AV→Prop
 | nils:FzN K .nils (.isl [] 0)
 | same {a:AV} (h:a.pure1=true):FzN K a a
 | osl {r off len sz:Nat} {cs vs vs':List AV} (hr:K r=some cs) (hv:Tk cs off (len * sz) vs) (hl:vs.length=vs'.length) (h1:∀ (i:Nat) b,vs'[i]?=some b→b.one=true) (h:∀ (i:Nat) a b,vs[i]?=some a→vs'[i]?=some b→FzN K a b):FzN K (.osl r off len sz) (.isl vs' len)
theorem FzN.rep {K:Hp} {a b:AV} (h:FzN K a b) {X:Nat→Prop} {φ:Em} {w:World} (hst:St X φ K w):∀ {v:Value},Rep X w φ v a→Rep (gvX X K φ) w mt v b:=by
 induction h with
 | nils =>
  intro v hr
  cases hr
  exact .isl0 _ _
 | same h =>
  intro v hr
  exact (hr.pure1 (φ':=mt) h).keep (Nat.le_refl _) (fun _ _ _=>rfl) (fun _ _=>rfl) (fun _ _ h=>h.1) (fun _ _ h=>h)
 | @osl r off len sz cs vs vs' hr hv hl h1 _ ih =>
  intro v hrep
  obtain ⟨A,cap,rfl,hc,⟨h2,h3⟩|⟨b,o,hp,rfl,hs⟩⟩:=hrep.osl_inv
  ·have:vs'=[]:=List.eq_nil_of_length_eq_zero (by rw [← hl,hv.1,h2];simp)
   subst this
   subst h2
   exact .isl0 _ _
  ·obtain ⟨c,e,hX,hh,hcs⟩:=hst.cells hr hp (by omega)
   have hat:∀ (i:Nat) d,vs[i]?=some d→∃ u,w.cell? ⟨b,o + off + i,none⟩=some u∧Rep X w φ u d:=fun i d hi=>by
    obtain ⟨_,u,g1,g2⟩:=hcs _ d (hv.2 i d hi)
    exact ⟨u,by rw [cell_of hh,Nat.add_assoc];exact g1,g2⟩
   refine .isl vs' len cap b (o + off) (fun i=>(w.cell? ⟨b,o + off + i,none⟩).getD undef) (lt_heap hh) (fun hx=>hx.2 r cs o hr hp) hc h1 (fun i d hi=>?_) fun i d hi=>?_
   ·have hlt:i < vs.length:=by rw [hl];exact (List.getElem?_eq_some_iff.1 hi).1
    obtain ⟨u,g1,_⟩:=hat i vs[i] (List.getElem?_eq_getElem hlt)
    rw [g1];rfl
   ·have hlt:i < vs.length:=by rw [hl];exact (List.getElem?_eq_some_iff.1 hi).1
    obtain ⟨u,g1,g2⟩:=hat i vs[i] (List.getElem?_eq_getElem hlt)
    rw [g1]
    exact ih i vs[i] d (List.getElem?_eq_getElem hlt) hi g2
def lstZ (f:AV→AV→Bool):List AV→List AV→Bool
 | [],[]=>true
 | a::l,b::m=>match f a b && b.one with
  | true=>lstZ f l m
  | false=>false
 | _,_=>false
theorem lstZ_ok {f:AV→AV→Bool} {Q:AV→AV→Prop} (hf:∀ a b,f a b=true→Q a b):∀ {l m:List AV},lstZ f l m=true→l.length=m.length∧(∀ (i:Nat) b,m[i]?=some b→b.one=true)∧∀ (i:Nat) a b,l[i]?=some a→m[i]?=some b→Q a b:=by
 intro l
 induction l with
 | nil=>intro m h;cases m with
  | nil=>exact ⟨rfl,fun i b h=>by simp at h,fun i a b h=>by simp at h⟩
  | cons=>cases h
 | cons a l ih=>intro m h;cases m with
  | nil=>cases h
  | cons b m =>
   unfold lstZ at h
   split at h<;>first|(cases h;done)|skip
   rename_i hb
   rw [Bool.and_eq_true] at hb
   obtain ⟨h1,h2,h3⟩:=ih h
   refine ⟨by simp [h1],fun i c hi=>?_,fun i c d hi hd=>?_⟩
   ·cases i with
    | zero=>simp at hi;subst hi;exact hb.2
    | succ i=>exact h2 i c (by simpa using hi)
   ·cases i with
    | zero=>simp at hi hd;subst hi hd;exact hf _ _ hb.1
    | succ i=>exact h3 i c d (by simpa using hi) (by simpa using hd)
def fzB (L:HL):Nat→AV→AV→Bool
 | 0,a,b=>avSame a b && a.pure1
 | n + 1,a,b=>match a,b with
  | .nils,.isl [] 0=>true
  | .osl r off len sz,.isl cs' len'=>match lkH L r with
   | some cs=>match tkE cs off (len * sz) with
    | some vs=>match Nat.beq len len' with
     | true=>lstZ (fzB L n) vs cs'
     | false=>false
    | none=>false
   | none=>false
  | a,b=>avSame a b && a.pure1
theorem fzB_ok (L:HL):∀ n a b,fzB L n a b=true→FzN (lkH L) a b:=by
 intro n
 induction n with
 | zero =>
  intro a b h
  unfold fzB at h
  rw [Bool.and_eq_true] at h
  rw [← avSame_ok h.1]
  exact .same h.2
 | succ n ih =>
  intro a b h
  unfold fzB at h
  split at h
  ·exact .nils
  ·split at h<;>first|(cases h;done)|skip
   rename_i cs hl
   split at h<;>first|(cases h;done)|skip
   rename_i vs hv
   split at h<;>first|(cases h;done)|skip
   rename_i hn
   have:=Nat.eq_of_beq_eq_true hn
   subst this
   obtain ⟨h1,h2,h3⟩:=lstZ_ok ih h
   exact .osl hl (tkE_ok hv) h1 h2 h3
  ·rw [Bool.and_eq_true] at h
   rw [← avSame_ok h.1]
   exact .same h.2
inductive FzA (K:Hp):AV→AV→Prop
 | one {a b:AV} (h:FzN K a b):FzA K a b
 | agg {cs cs':List AV} (hl:cs.length=cs'.length) (h1:∀ (i:Nat) b,cs'[i]?=some b→b.one=true) (h:∀ (i:Nat) a b,cs[i]?=some a→cs'[i]?=some b→FzN K a b):FzA K (.agg cs) (.agg cs')
theorem FzA.rep {K:Hp} {a b:AV} (h:FzA K a b) {X:Nat→Prop} {φ:Em} {w:World} {v:Value} (hst:St X φ K w) (hr:Rep X w φ v a):Rep (gvX X K φ) w mt v b:=by
 cases h with
 | one h=>exact h.rep hst hr
 | agg hl h1 h =>
  cases hr with
  | agg vs _ hl2 _ hh =>
   refine .agg vs _ (by omega) h1 fun i u c hu hc=>?_
   have hlt:i < _:=(List.getElem?_eq_some_iff.1 hc).1
   rw [← hl] at hlt
   exact (h i _ c (List.getElem?_eq_getElem hlt) hc).rep hst (hh i u _ hu (List.getElem?_eq_getElem hlt))
def fzAB (L:HL) (a b:AV):Bool:=match a,b with
 | .agg cs,.agg cs'=>lstZ (fzB L 6) cs cs'
 | a,b=>fzB L 6 a b
theorem fzAB_ok {L:HL} {a b:AV} (h:fzAB L a b=true):FzA (lkH L) a b:=by
 unfold fzAB at h
 split at h
 ·obtain ⟨h1,h2,h3⟩:=lstZ_ok (fzB_ok L 6) h
  exact .agg h1 h2 h3
 ·exact .one (fzB_ok L 6 _ _ h)
theorem AFn.give {P:Program} {g:FuncId} {k:Nat} {args args':List AV} {H:Hp} {v:AV} (h:AFn P g 0 args' mt v mt) (hv:v.pure=true) (hl:args.length=args'.length) (ha:∀ (i:Nat) a b,args[i]?=some a→args'[i]?=some b→FzA H a b):AFn P g k args H v mt:=by
 intro X φ w vals hs hR hst hφ
 have hst0:St (gvX X H φ) mt mt w:=⟨fun r cs hr=>(by cases hr),fun r r' cs cs' b o o' hr=>(by cases hr),hst.gl.sub fun _ h=>h.1⟩
 refine (h (gvX X H φ) mt w vals (by omega) (fun i x b hx hb=>?_) hst0 (fun _ _=>rfl)).mono ?_
 ·have hlt:i < args'.length:=(List.getElem?_eq_some_iff.1 hb).1
  rw [← hl] at hlt
  exact (ha i _ b (List.getElem?_eq_getElem hlt) hb).rep hst (hR i x _ hx (List.getElem?_eq_getElem hlt))
 rintro e w' ⟨x,X',φ',rfl,h1,h2,h3⟩
 refine ⟨x,X',φ,rfl,⟨h1.os,h1.tape,h1.output,h1.size,fun b hb _=>h1.same b hb fun r cs o hr=>(by cases hr),h1.bs,fun b hb hx=>(h1.xs b hb hx).1,fun b hb hx=>?_,fun _ _=>rfl,fun r cs b o hr=>(by cases hr)⟩,⟨fun r cs hr=>(by cases hr),fun r r' cs cs' b o o' hr=>(by cases hr),h2.gl⟩,h3.pure hv⟩
 by_cases ho:∃ r cs o,H r=some cs∧φ r=some (b,o)
 ·exact .inr ho
 ·refine (h1.xk b hb ⟨hx,fun r cs o hr hp=>ho ⟨r,cs,o,hr,hp⟩⟩).imp id fun ⟨r,cs,o,hr,_⟩=>by cases hr
theorem KnE.give {P:Program} {g:FuncId} {k:Nat} {a b:AV} {L:HL} {v:AV} (hF:FnOK P g) (h:AFn P g 0 [b] mt v mt) (hv:v.pure=true) (hz:fzAB L a b=true):KnE.OK P ⟨g,k,[a],L,v,[]⟩ :=
 ⟨hF,h.give hv rfl fun i x y hx hy=>by
  match i with
  | 0=>simp at hx hy;subst hx hy;exact fzAB_ok hz
  | i + 1=>simp at hx⟩
theorem objs_tk {l:List ObjR} {k:Nat} (h:k < l.length):Tk (objsC l) (k * 6) 6 (objC l[k]):=flat_tk (c:=objC) (fun _=>rfl) h
set_option maxHeartbeats 1000000 in
theorem permits_any (l:List ObjR) (p:Pre) (asn:Int) (hp:PreOk p) (ho:∀ o∈l,PreOk o.p) (hl:l.length≤1000):AFn Tryz.prog 14 0 [.isl (objsC l) l.length,.agg (preC p),.base (.int .i64 asn)] mt (.base (.int .i64 (prmK cvP p asn 11 7 9 l 11))) mt:=by
 refine AFn.eq Tryz.func14 rfl rfl (Nat.le_of_ble_eq_true rfl) ?_
 have h0:=pvalid_ok p hp
 obtain ⟨R,hR⟩:∃ R,prmK cvP p asn 11 7 9 l 11=R:=⟨_,rfl⟩
 rw [hR]
 refine Wq<|qW 0 2 rfl<|qC rfl<|qA rfl<|Nl<|Wq<|Wq<|qW 6 9 rfl<|qG rfl ty36 rfl (Tl rfl)<|qY rfl (h0) fok23 rfl<|qO rfl<|Nl<|Wo rfl rfl<|Wu<|Wq<|qW 18 19 rfl<|qA rfl<|Nl<|Wq<|Wq<|qW 23 26 rfl<|qM rfl<|qH rfl ty26<|qM rfl<|Nl<|Wb<|W.loop_keep (α:=Nat × Int) (fun x=>l.length - x.1) 1 (fun x=>[(7,.base (.int .i64 x.2)),(15,.base (.int .i64 (x.1:Int)))]) (fun x=>up mt 0 (some (preC p))) (fun x=>x.1≤l.length∧prmK cvP p asn 11 7 9 (l.drop x.1) x.2=R) (0,11) [(0,0)] (.cons (t:=2) rfl (by exact .inl rfl) (.cons (t:=4) rfl (by exact .inr ⟨rfl,fun _ h=>by cases h⟩) (.cons (t:=13) rfl (by exact .inl rfl) (.cons (t:=14) rfl (by exact .inl rfl) .nil)))) (show 0≤l.length∧prmK cvP p asn 11 7 9 (l.drop 0) 11=R from ⟨Nat.zero_le _,hR⟩) (by decide) ?_ ?_ ?_
 ·exact lC (lR rfl) (lC (lR rfl) lN)
 ·exact aU (kR rfl) aM
 rintro ⟨k,e⟩ hIA ihA
 try (dsimp only at hIA)
 try dsimp only [baseT,List.cons_append,List.nil_append]
 obtain ⟨hk,hI⟩:=hIA
 by_cases hc:k < l.length
 ·have g1:decide ((k:Int) < (l.length:Int))=true:=decide_eq_true (by omega)
  have hkk:(k:Int) + 1=((k + 1:Nat):Int):=by omega
  have htk:=objs_tk hc
  have hok:=ho l[k] (List.getElem_mem hc)
  rw [List.drop_eq_getElem_cons hc] at hI
  obtain ⟨o,hoe⟩:∃ o,l[k]=o:=⟨_,rfl⟩
  rw [hoe] at htk hok hI
  unfold prmK at hI
  have h1:=covers_any o.p p hok
  refine Wq<|qW 30 31 rfl<|qK rfl<|Nl<|Wq<|Wt rfl ‹_›<|Wu<|Wq<|Wb<|Wq<|qW 35 39 rfl<|qJ rfl rfl ty26 ty38 (by omega)<|Od rfl rfl (Lg rfl rfl ty38 rfl htk)<|qB rfl ty38<|qS rfl ty38 (Sl rfl) rfl<|Nl<|Wb ?_
  by_cases ha:o.asn=asn
  ·have g2:(o.asn != asn)=false:=by simp [ha]
   rw [if_neg (by simpa using ha)] at hI
   refine Wq<|qW 43 48 rfl<|qF rfl ty38 rfl<|qL rfl ty3 rfl<|qM rfl<|qN rfl<|qA rfl<|Nl<|Wo rfl ‹_› ?_
   cases hcv:cvP o.p p with
   | false =>
    rw [hcv] at h1
    rw [if_pos hcv] at hI
    refine Wq<|qW 52 58 rfl<|qF rfl ty38 rfl<|qG rfl ty36 rfl (Tl rfl)<|qG rfl ty36 rfl (Tl rfl)<|qY rfl (h1) fok32 rfl<|qO rfl<|qA rfl<|Nl<|Wt rfl rfl ?_
    by_cases he:e=11
    ·have g3:(e == 11)=true:=by simp [he]
     rw [if_pos he] at hI
     refine Wq<|qW 62 64 rfl<|qM rfl<|qE rfl<|Nl<|Wt rfl ‹_›<|qW 68 69 rfl<|qA rfl<|Nl<|qW 93 95 rfl<|qZ rfl (iW _ (by omega))<|qM rfl<|Nl ?_
     rw [hkk]
     refine WL.renameL [(0,0)] 1 (by decide) ?_ ?_ (ihA ((k + 1),7) (show l.length - (k + 1) < l.length - k from by omega) (show (k + 1)≤l.length∧prmK cvP p asn 11 7 9 (l.drop (k + 1)) 7=R from ⟨by omega,hI⟩))
     ·exact lC (lR rfl) (lC (lR rfl) (lC (lR rfl) (lC (lI rfl) (lC (lR rfl) (lC (lR rfl) lN)))))
     ·exact aU (kR rfl) aM
    ·have g3:(e == 11)=false:=by simp [he]
     rw [if_neg he] at hI
     refine Wq<|qW 62 64 rfl<|qM rfl<|qE rfl<|Nl<|Wo rfl ‹_›<|Wu<|qW 93 95 rfl<|qZ rfl (iW _ (by omega))<|qM rfl<|Nl ?_
     rw [hkk]
     refine WL.renameL [(0,0)] 1 (by decide) ?_ ?_ (ihA ((k + 1),e) (show l.length - (k + 1) < l.length - k from by omega) (show (k + 1)≤l.length∧prmK cvP p asn 11 7 9 (l.drop (k + 1)) e=R from ⟨by omega,hI⟩))
     ·exact lC (lR rfl) (lC (lR rfl) (lC (lR rfl) (lC (lI rfl) (lC (lR rfl) (lC (lR rfl) lN)))))
     ·exact aU (kR rfl) aM
   | true =>
    rw [hcv] at h1
    rw [if_neg (by rw [hcv];simp)] at hI
    refine Wq<|qW 52 58 rfl<|qF rfl ty38 rfl<|qG rfl ty36 rfl (Tl rfl)<|qG rfl ty36 rfl (Tl rfl)<|qY rfl (h1) fok32 rfl<|qO rfl<|qA rfl<|Nl<|Wo rfl rfl ?_
    by_cases hm:o.mx < p.len
    ·have g4:decide (p.len > o.mx)=true:=decide_eq_true hm
     rw [if_pos hm] at hI
     refine Wq<|qW 73 79 rfl<|qF rfl ty36 rfl<|qL rfl ty3 rfl<|qF rfl ty38 rfl<|qL rfl ty3 rfl<|qGt rfl<|qA rfl<|Nl<|Wt rfl ‹_›<|qW 83 84 rfl<|qA rfl<|Nl<|qW 93 95 rfl<|qZ rfl (iW _ (by omega))<|qM rfl<|Nl ?_
     rw [hkk]
     refine WL.renameL [(0,0)] 1 (by decide) ?_ ?_ (ihA ((k + 1),9) (show l.length - (k + 1) < l.length - k from by omega) (show (k + 1)≤l.length∧prmK cvP p asn 11 7 9 (l.drop (k + 1)) 9=R from ⟨by omega,hI⟩))
     ·exact lC (lR rfl) (lC (lR rfl) (lC (lR rfl) (lC (lI rfl) (lC (lR rfl) (lC (lR rfl) lN)))))
     ·exact aU (kR rfl) aM
    ·have g4:decide (p.len > o.mx)=false:=decide_eq_false hm
     rw [if_neg hm] at hI
     refine Wq<|qW 73 79 rfl<|qF rfl ty36 rfl<|qL rfl ty3 rfl<|qF rfl ty38 rfl<|qL rfl ty3 rfl<|qGt rfl<|qA rfl<|Nl<|Wo rfl ‹_›<|Wq<|qW 88 89 rfl<|qA rfl<|Nl<|Wz ⟨.inl rfl,_,mt,(Rc (Rt0 rfl) Rv),aM,?_⟩
     exact ⟨by rw [← hI];rfl,rfl⟩
  ·have g2:(o.asn != asn)=true:=by simp [ha]
   rw [if_pos (by simpa using ha)] at hI
   refine Wq<|qW 43 48 rfl<|qF rfl ty38 rfl<|qL rfl ty3 rfl<|qM rfl<|qN rfl<|qA rfl<|Nl<|Wt rfl ‹_›<|Wu<|qW 93 95 rfl<|qZ rfl (iW _ (by omega))<|qM rfl<|Nl ?_
   rw [hkk]
   refine WL.renameL [(0,0)] 1 (by decide) ?_ ?_ (ihA ((k + 1),e) (show l.length - (k + 1) < l.length - k from by omega) (show (k + 1)≤l.length∧prmK cvP p asn 11 7 9 (l.drop (k + 1)) e=R from ⟨by omega,hI⟩))
   ·exact lC (lR rfl) (lC (lR rfl) (lC (lR rfl) (lC (lI rfl) (lC (lR rfl) (lC (lR rfl) lN)))))
   ·exact aU (kR rfl) aM
 ·have g1:decide ((k:Int) < (l.length:Int))=false:=decide_eq_false (by omega)
  rw [List.drop_of_length_le (by omega)] at hI
  unfold prmK at hI
  refine Wq<|qW 30 31 rfl<|qK rfl<|Nl<|Wq<|Wo rfl ‹_›<|Wx<|Wq<|qW 99 101 rfl<|qM rfl<|qA rfl<|Nl<|Wz ⟨.inl rfl,_,mt,(Rc (Rt0 rfl) Rv),aM,?_⟩
  exact ⟨by rw [← hI];rfl,rfl⟩
end Go.Proofs.YtndbhhgmpjjjhaaGreatDoor
