/-
  Programs carried out: calls, regions, code, functions. Programs carried out: regions, code, functions. Further operations: what is compared with nil, a Builder with itself, capacities, zeros that are appended. The further operations, carried out. Further operations: bytes and strings. Further operations: functions that the machine itself answers. Further operations: parts of arrays that are owned. Typed slices and pointers, taken as plain ones. Own slices whose capacity is known: asked for it, cut up to it, grown beyond it; a part of a block copied within it; blocks apart. A call of a function that was made over frozen values. A table copied; the entries that a condition keeps; what objects permit. What is frozen does not overlap what is owned. The length of an own slice of known capacity; its capacity forgotten. An entry is put into a table's memory at a place.
-/
import Derived.Test.YtbfnfgpjgdbmeaaGreatDoorEf
import Derived.Test.YtbfnfgpjgdbmeaaGreatDoorMab
import Derived.Lib.Builder
import Derived.Lib.ConvBytes
import Derived.Lib.Bytealg
import Derived.Lib.Overlaps
import Derived.Test.YtbfnfgpjgdbmeaaGreatDoorE4
import Derived.Test.YtbfnfgpjgdbmeaaGreatDoorVt
import Derived.Lib.Hide
namespace Go.Proofs.YtbfnfgpjgdbmeaaGreatDoor
open Go.RowKit
def mapOO {α β:Type} (f:α→Option β):List α→Option (List β)
 | []=>some []
 | a::l=>match f a with
  | some b=>match mapOO f l with
   | some bs=>some (b::bs)
   | none=>none
  | none=>none
theorem mapOO_ok {α β:Type} {f:α→Option β}:∀ {l:List α} {bs:List β},mapOO f l=some bs→l.map f=bs.map some:=by
 intro l
 induction l with
 | nil=>intro bs h;injection h with h;subst h;rfl
 | cons a l ih =>
  intro bs h
  unfold mapOO at h
  split at h<;>first|(cases h;done)|skip
  rename_i b hb
  split at h<;>first|(cases h;done)|skip
  rename_i bs' hbs
  injection h with h;subst h
  rw [List.map_cons,List.map_cons,ih hbs,hb]
def names1:AV→List Nat
 | .own r _|.osl r _ _ _|.mref r|.cloo _ r _|.tyOf r _ _|.oslt r _ _ _ _|.oslc r _ _ _ _|.ownt r _ _=>[r]
 | _=>[]
def names2:AV→List Nat
 | .agg cs=>cs.flatMap names1
 | a=>names1 a
def names3:AV→List Nat
 | .tup vs=>vs.flatMap names2
 | a=>names2 a
def addN:List Nat→List Nat→List Nat
 | R,[]=>R
 | R,r::ns=>match memN R r with
  | true=>addN R ns
  | false=>addN (R++[r]) ns
def closeN (L:HL):Nat→Nat→List Nat→List Nat
 | 0,_,R=>R
 | f + 1,i,R=>match R[i]? with
  | none=>R
  | some r=>match lkH L r with
   | some cs=>closeN L f (i + 1) (addN R (cs.flatMap names1))
   | none=>closeN L f (i + 1) R
def nodupN:List Nat→Bool
 | []=>true
 | a::l=>!memN l a && nodupN l
theorem nodupN_ok:∀ {l:List Nat},nodupN l=true→l.Nodup:=by
 intro l
 induction l with
 | nil=>intro _;exact List.nodup_nil
 | cons a l ih =>
  intro h
  simp only [nodupN,Bool.and_eq_true,Bool.not_eq_true'] at h
  refine List.nodup_cons.2 ⟨fun hm=>?_,ih h.2⟩
  rw [memN_iff.2 hm] at h
  cases h.1
def enumL:Nat→List (List AV)→HL
 | _,[]=>[]
 | k,c::l=>(k,c)::enumL (k + 1) l
theorem enumL_lk (l:List (List AV)) (k r:Nat):lkH (enumL k l) r=if k≤r then l[r - k]? else none:=by
 induction l generalizing k with
 | nil=>simp [enumL,lkH]
 | cons c l ih =>
  unfold enumL lkH
  cases hb:Nat.beq k r with
  | true=>have:=Nat.eq_of_beq_eq_true hb;subst this;simp
  | false =>
   have:=Nat.ne_of_beq_eq_false hb
   rw [ih]
   by_cases hk:k≤r
   ·rw [if_pos (by omega),if_pos hk,show r - k=(r - (k + 1)) + 1 from by omega,List.getElem?_cons_succ]
   ·rw [if_neg (by omega),if_neg hk]
def patch (h:Hp):List Nat→HL→HL
 | [],L=>L
 | r::ws,L=>match h r with
  | some cs=>(r,cs)::delH (patch h ws L) r
  | none=>delH (patch h ws L) r
theorem patch_lk (h:Hp) (ws:List Nat) (L:HL) (hr:∀ r,r ∉ ws→h r=lkH L r):lkH (patch h ws L)=h:=by
 have key:∀ ws r,lkH (patch h ws L) r=if r∈ws then h r else lkH L r:=by
  intro ws
  induction ws with
  | nil=>intro r;simp [patch]
  | cons a ws ih =>
   intro r
   unfold patch
   split
   ·rename_i cs hcs
    rw [lk_cons,lk_del]
    by_cases e:r=a
    ·subst e;rw [up_at,if_pos (List.mem_cons_self),hcs]
    ·rw [up_ne e,up_ne e,ih]
     simp [e]
   ·rename_i hcs
    rw [lk_del]
    by_cases e:r=a
    ·subst e;rw [up_at,if_pos (List.mem_cons_self),hcs]
    ·rw [up_ne e,ih]
     simp [e]
 funext r
 rw [key]
 split
 ·rfl
 ·rename_i hn;exact (hr r hn).symm
def keepH (p:Nat→Bool):HL→HL
 | []=>[]
 | (k,d)::l=>match p k with
  | true=>(k,d)::keepH p l
  | false=>keepH p l
theorem keepH_lk (p:Nat→Bool) (L:HL):∀ r cs,lkH (keepH p L) r=some cs→lkH L r=some cs∧p r=true:=by
 intro r cs
 have:lkH (keepH p L) r=match p r with|true=>lkH L r|false=>none:=by
  induction L with
  | nil=>unfold keepH;cases p r<;>rfl
  | cons q l ih =>
   obtain ⟨k,d⟩:=q
   unfold keepH
   cases hk:p k with
   | true =>
    simp only [lkH]
    cases hb:Nat.beq k r with
    | true=>have:=Nat.eq_of_beq_eq_true hb;subst this;rw [hk]
    | false=>simp only;exact ih
   | false =>
    simp only [lkH]
    cases hb:Nat.beq k r with
    | true=>have:=Nat.eq_of_beq_eq_true hb;subst this;rw [hk] at ih ⊢;exact ih
    | false=>simp only;exact ih
 rw [this]
 cases p r with
 | true=>exact fun h=>⟨h,rfl⟩
 | false=>exact fun h=>by cases h
def allH (q:List AV→Bool):HL→Bool
 | []=>true
 | (_,d)::l=>q d && allH q l
theorem allH_lk {q:List AV→Bool} {L:HL} (h:allH q L=true):∀ r cs,lkH L r=some cs→q cs=true:=by
 induction L with
 | nil=>intro r cs h;cases h
 | cons p l ih =>
  obtain ⟨k,d⟩:=p
  simp only [allH,Bool.and_eq_true] at h
  intro r cs hr
  unfold lkH at hr
  split at hr
  ·injection hr with hr;subst hr;exact h.1
  ·exact ih h.2 r cs hr
theorem AFn.drop {P:Program} {g:FuncId} {k:Nat} {args:List AV} {H H' H'':Hp} {v:AV} (h:AFn P g k args H v H') (hs:∀ r cs,H'' r=some cs→H' r=some cs):AFn P g k args H v H'' :=
 fun X φ w vals h1 h2 h3 h4=>(h X φ w vals h1 h2 h3 h4).mono fun _ _ ⟨x,X',φ',g0,g1,g2,g3⟩=>⟨x,X',φ',g0,g1.drop hs,g2.drop hs,g3⟩
def cloE:AV→Option (FuncId × List AV)
 | .base (.func (.func g) ⟨[]⟩ ⟨[]⟩)=>some (g,[])
 | .clo g cs=>match cs.all (fun c=>c.pure1) with
  | true=>some (g,cs)
  | false=>none
 | .cloo g r off=>some (g,[.own r off])
 | _=>none
theorem cloE_ok {a:AV} {g:FuncId} {cl:List AV} (h:cloE a=some (g,cl)):Clo g a cl:=by
 unfold cloE at h
 split at h<;>first|(cases h;done)|skip
 ·simp only [Option.some.injEq,Prod.mk.injEq] at h
  obtain ⟨rfl,rfl⟩:=h
  exact .fn
 ·split at h<;>first|(cases h;done)|skip
  rename_i hp
  simp only [Option.some.injEq,Prod.mk.injEq] at h
  obtain ⟨rfl,rfl⟩:=h
  exact .clo _ hp
 ·simp only [Option.some.injEq,Prod.mk.injEq] at h
  obtain ⟨rfl,rfl⟩:=h
  exact .cloo _ _
abbrev Rec:=FuncId→Nat→List AV→HL→Option (AV × HL)
def RecOK (P:Program) (rec:Rec):Prop:=∀ g k args L v L',rec g k args L=some (v,L')→FnOK P g∧AFn P g k args (lkH L) v (lkH L')
structure Env (P:Program) where
 Y:Tys P
 fns:Nat→Option Func
 fnsOk : ∀ g f, fns g = some f → P.funcs[g]? = some f ∧ (f.name == "runtime.NumGoroutine") = false
 kn:Rec
 knOk:RecOK P kn
 ext:Oper→(Operand→Option AV)→HL→Nat→Option Res
 extOk:∀ o E L N R,ext o E L N=some R→LO P o E (lkH L) N R.rd R.wr R.v (lkH R.L)
 c:Nat
 c0:0 < c
 mixed:P.follows .mixedOrders=true
def bSame:Value→Value→Bool
 | .int k a,.int k' b=>kEq k k' && decide (a=b)
 | .bool a,.bool b=>decide (a=b)
 | .string ⟨⟨a⟩⟩,.string ⟨⟨b⟩⟩=>beqL a b
 | .pointer none,.pointer none=>true
 | .nilIface,.nilIface=>true
 | .func (.func g) ⟨[]⟩ ⟨[]⟩,.func (.func g') ⟨[]⟩ ⟨[]⟩=>Nat.beq g g'
 | _,_=>false
theorem bSame_ok {a b:Value} (h:bSame a b=true):a=b:=by
 unfold bSame at h
 split at h<;>first|(cases h;done)|skip
 ·rw [Bool.and_eq_true] at h
  have h1:=of_decide_eq_true h.1
  have h2:=of_decide_eq_true h.2
  rw [h1,h2]
 ·rw [of_decide_eq_true h]
 ·rw [beqL_eq] at h
  have:=eq_of_beq h
  rw [this]
 ·rfl
 ·rfl
 ·rw [Nat.eq_of_beq_eq_true h]
def avSame:AV→AV→Bool
 | .base a,.base b=>bSame a b
 | .nils,.nils=>true
 | .own r o,.own r' o'=>Nat.beq r r' && Nat.beq o o'
 | .osl r o l s,.osl r' o' l' s'=>Nat.beq r r' && Nat.beq o o' && Nat.beq l l' && Nat.beq s s'
 | .oslc r o l s e,.oslc r' o' l' s' e'=>Nat.beq r r' && Nat.beq o o' && Nat.beq l l' && Nat.beq s s' && Nat.beq e e'
 | .oslt r o l s e,.oslt r' o' l' s' e'=>Nat.beq r r' && Nat.beq o o' && Nat.beq l l' && Nat.beq s s' && Nat.beq e e'
 | .tyOf r t n,.tyOf r' t' n'=>Nat.beq r r' && Nat.beq t t' && Nat.beq n n'
 | .mref r,.mref r'=>Nat.beq r r'
 | _,_=>false
theorem avSame_ok {a b:AV} (h:avSame a b=true):a=b:=by
 unfold avSame at h
 split at h<;>first|(cases h;done)|skip
 ·rw [bSame_ok h]
 ·rfl
 all_goals
  simp only [Bool.and_eq_true,Nat.beq_eq] at h
  simp [h]
def avsSame:List AV→List AV→Bool
 | [],[]=>true
 | a::l,b::m=>match avSame a b with
  | true=>avsSame l m
  | false=>false
 | _,_=>false
theorem avsSame_ok:∀ {l m:List AV},avsSame l m=true→l=m:=by
 intro l
 induction l with
 | nil=>intro m h;cases m with
  | nil=>rfl
  | cons=>cases h
 | cons a l ih=>intro m h;cases m with
  | nil=>cases h
  | cons b m =>
   unfold avsSame at h
   split at h
   ·rename_i hb;rw [avSame_ok hb,ih h]
   ·cases h
def sameAt (h:Hp) (L:HL) (r:Nat):Bool:=match lkH L r,h r with
 | some a,some b=>avsSame a b
 | _,_=>false
theorem sameAt_ok {h:Hp} {L:HL} {r:Nat} (hs:sameAt h L r=true):h r=lkH L r:=by
 unfold sameAt at hs
 split at hs
 ·rename_i a b h1 h2
  rw [h1,h2,avsSame_ok hs]
 ·cases hs
theorem LOM.ro {P:Program} {o:Oper} {E:Operand→Option AV} {H H':Hp} {N c:Nat} {wr:List Nat} {v:AV} (h:LOM P o E H N c [] wr v H') (q:Nat→Bool) (hq:∀ r,q r=true→H' r=H r):LOM P o E H N c (wr.filter q) (wr.filter fun r=>!q r) v H':=by
 refine ⟨fun r hr=>?_,fun E' K hE hK=>?_⟩
 ·by_cases hw:r∈wr
  ·cases hb:q r with
   | true=>exact hq r hb
   | false=>exact absurd (List.mem_filter.2 ⟨hw,by simp [hb]⟩) hr
  ·exact h.1 r hw
 ·have hKw:∀ r,r∈wr→K r=H r:=fun r hw=>by
   cases hb:q r with
   | true=>exact hK r (.inl (List.mem_filter.2 ⟨hw,hb⟩))
   | false=>exact hK r (.inr (List.mem_filter.2 ⟨hw,by simp [hb]⟩))
  have key:=h.2 E' K hE fun r hr=>hKw r (hr.resolve_left (by simp))
  have e:ovr K wr H'=ovr K (wr.filter fun r=>!q r) H':=by
   funext r
   unfold ovr
   by_cases hw:r∈wr
   ·cases hb:q r with
    | true =>
     rw [if_pos hw,if_neg (fun hm=>by have:=(List.mem_filter.1 hm).2;rw [hb] at this;cases this),hq r hb,hKw r hw]
    | false=>rw [if_pos hw,if_pos (List.mem_filter.2 ⟨hw,by simp [hb]⟩)]
   ·rw [if_neg hw,if_neg fun hm=>hw (List.mem_filter.1 hm).1]
  rw [← e]
  exact key
def resCall2 (rd wr:List Nat) (v:AV) (h:Hp) (L:HL):Res:=⟨rd,wr,v,patch h wr L⟩
def resCall (W:List Nat) (v:AV) (h:Hp) (L:HL):Res:=fSp (W.filter (sameAt h L)) fun rd=>fSp (W.filter fun r=>!sameAt h L r) fun wr=>resCall2 rd wr v h L
theorem resCall_ok {P:Program} {o:Oper} {E:Operand→Option AV} {N c:Nat} {W:List Nat} {v:AV} {h:Hp} {L:HL} (hl:LOM P o E (lkH L) N c [] W v h):LOM P o E (lkH L) N c (resCall W v h L).rd (resCall W v h L).wr (resCall W v h L).v (lkH (resCall W v h L).L):=by
 unfold resCall
 rw [fSp_eq,fSp_eq]
 have key:=hl.ro (sameAt h L) fun r hr=>sameAt_ok hr
 show LOM P o E (lkH L) N c _ _ _ (lkH (patch h _ L))
 rw [patch_lk h _ L key.1]
 exact key
section
variable {P:Program} (V:Env P) (rec:Rec) (o:Oper) (E:Operand→Option AV) (L:HL) (N:Nat)
def endCall (R S:List Nat) (v:AV) (Lc:HL):Option Res :=
 match nodupN S && S.all (Nat.ble R.length) && Nat.ble S.length V.c && v.nm3 (pgc R S) && allH (·.all (AV.nm1 (pgc R S))) (keepH (pgc R S) Lc) with
 | true=>some (resCall (R++(List.range S.length).map (N + ·)) (ren3 (sgc R S N) v) (hpc R S N (lkH (keepH (pgc R S) Lc)) (lkH L)) L)
 | false=>none
def eCall2 (g:FuncId) (cl avs:List AV) (R:List Nat):Option Res:=match mapOO (lkH L) R with
 | some bl=>match avs.all (AV.nm2 (memN R)) && cl.all (AV.nm2 (memN R)) && R.all (fun r=>Nat.blt r N || Nat.ble (N + V.c) r) && nodupN R && bl.all (·.all (AV.nm1 (memN R))) with
  | true=>fNat R.length fun kR=>fList fAV2 (avs.map (ren2 (idx R))++cl.map (ren2 (idx R))) fun as_=>fHLA (enumL 0 (bl.map (·.map (ren1 (idx R))))) fun L0=>match rec g kR as_ L0 with
   | some (v,Lc)=>fSp ((closeN Lc 200 0 (addN (List.range R.length) (names3 v))).filter (fun k=>Nat.ble R.length k)) fun S=>endCall V L N R S v Lc
   | none=>none
  | false=>none
 | none=>none
def eCall (z:Operand) (xs:List Operand):Option Res:=match E z with
 | some fv=>match cloE fv with
  | some (g,cl)=>match mapOO E xs with
   | some avs=>fSp (closeN L 200 0 (addN [] ((avs++cl).flatMap names2))) fun R=>eCall2 V rec L N g cl avs R
   | none=>none
  | none=>none
 | none=>none
theorem eCall_ok (hrec:RecOK P rec) {z:Operand} {xs:Array Operand} {ts:Array TypeId} {R:Res} (ho:o.op=.call { callee:=.value z,args:=xs,argTypes:=ts }) (h:eCall V rec E L N z xs.toList=some R):LOM P o E (lkH L) N V.c R.rd R.wr R.v (lkH R.L):=by
 unfold eCall at h
 split at h<;>first|(cases h;done)|skip
 rename_i fv hz
 split at h<;>first|(cases h;done)|skip
 rename_i g cl hfv
 split at h<;>first|(cases h;done)|skip
 rename_i avs hx
 rw [fSp_eq] at h
 generalize closeN L 200 0 (addN [] ((avs++cl).flatMap names2))=Rn at h
 unfold eCall2 at h
 split at h<;>first|(cases h;done)|skip
 rename_i bl hbl
 split at h<;>first|(cases h;done)|skip
 rename_i hg
 simp only [Bool.and_eq_true] at hg
 rw [fNat_eq,fList_eq fAV2_eq,fHLA_eq] at h
 split at h<;>first|(cases h;done)|skip
 rename_i v Lc hr
 rw [fSp_eq] at h
 generalize (closeN Lc 200 0 (addN (List.range Rn.length) (names3 v))).filter (fun k=>Nat.ble Rn.length k)=S at h
 unfold endCall at h
 split at h<;>first|(cases h;done)|skip
 rename_i hq
 simp only [Bool.and_eq_true] at hq
 injection h with h;subst h
 obtain ⟨hF,hA⟩:=hrec _ _ _ _ _ _ hr
 have e1:lkH (enumL 0 (bl.map (·.map (ren1 (idx Rn)))))=fun k=>(bl[k]?).map (·.map (ren1 (idx Rn))):=by
  funext k
  rw [enumL_lk,if_pos (Nat.zero_le _),Nat.sub_zero,List.getElem?_map]
 rw [e1] at hA
 have key:=LOM.call (c:=V.c) (N:=N) (S:=S) (R:=Rn) ho hz (cloE_ok hfv) hF (mapOO_ok hx) hg.1.1.1.1 hg.1.1.1.2 hg.1.1.2 (nodupN_ok hg.1.2) (mapOO_ok hbl) hg.2 (hA.drop fun r cs hr=>(keepH_lk (pgc Rn S) Lc r cs hr).1) (nodupN_ok hq.1.1.1.1) hq.1.1.1.2 (Nat.le_of_ble_eq_true hq.1.1.2) hq.1.2
  (fun k cs hk=>⟨(keepH_lk (pgc Rn S) Lc k cs hk).2,allH_lk hq.2 k cs hk⟩)
 exact resCall_ok key
theorem LO.makeCloo {H:Hp} {f:Nat} {g:FuncId} {caps:Array Operand} {r off:Nat} (ho:o.op=.makeFunc (.func g) #[] caps) (hx:caps.toList.map E=[AV.own r off].map some):LO P o E H f [] [] (.cloo g r off) H :=
 LO.pure fun X φ w ρ hR=>by
  obtain ⟨x,hc⟩:∃ x,caps.toList=[x]:=List.length_eq_one_iff.1 (by have:=congrArg List.length hx;simpa using this)
  have hx1:E x=some (.own r off):=by rw [hc] at hx;simpa using hx
  obtain ⟨b,o',hp,hv,h0⟩:=(hR x (by rw [ho];simp [Op.operands,← Array.mem_toList_iff,hc]) _ hx1).own_inv
  have hc2:caps=#[x]:=Array.toList_inj.1 hc
  refine ⟨.func (.func g) #[] #[ρ x],by simp [execOp,ho,Instr.makeFunc,Sem.run_pure,hc2],?_⟩
  rw [hv]
  exact .cloo g r off b o' hp h0
def r0 (L:HL) (a:AV):Option Res:=some ⟨[],[],a,L⟩
def rMap (L:HL):Option AV→Option Res
 | some a=>some ⟨[],[],a,L⟩
 | none=>none
theorem rMap_ok {a:Option AV} {R:Res} (h:rMap L a=some R):∃ b,a=some b∧R=⟨[],[],b,L⟩:=by
 cases a with
 | none=>cases h
 | some b=>injection h with h;exact ⟨b,rfl,h.symm⟩
def eStd:Option Res:=match o.op with
 | .move x=>rMap L (E x)
 | .assign x=>rMap L (E x)
 | .pick c a b=>match E c with
  | some (.base (.bool true))=>rMap L (E a)
  | some (.base (.bool false))=>rMap L (E b)
  | _=>none
 | .alloc t=>eAlloc V.Y L N t
 | .box _ x=>eBox E L N x
 | .build t ps=>eBuild V.Y E L t ps.toList
 | .buildSlice t n ps=>eBuildSlice V.Y E L N t n ps.toList
 | .load t x=>eLoad V.Y E L t x
 | .store t x y=>eStore V.Y E L t x y
 | .nilCheck x=>match E x with
  | some (.own r off)=>some ⟨[],[],.own r off,L⟩
  | some (.imm cs off)=>some ⟨[],[],.imm cs off,L⟩
  | _=>none
 | .binOp op t x y _=>eBin V.Y E L op t x y
 | .unOp op _ x=>eUn E L op x
 | .convert s t x=>eConv V.Y E L s t x
 | .makeFunc (.func g) ⟨[]⟩ caps=>match mapOO E caps.toList with
  | some [.own r off]=>some ⟨[],[],.cloo g r off,L⟩
  | some cs=>match cs.all AV.pure1 with
   | true=>some ⟨[],[],.clo g cs,L⟩
   | false=>none
  | none=>none
 | .makeSlice t x y=>eMakeSlice V.Y E L N t x y
 | .slice t x lo hi none=>eSlice V.Y E L t x lo hi
 | .fieldAddr t x i=>eFieldAddr V.Y E L t x i
 | .field t x i=>eField V.Y E L t x i
 | .indexAddr t x y=>eIndexAddr V.Y E L t x y
 | .index t x y=>eIndex V.Y E L t x y
 | .extract x i=>match E x with
  | some (.tup vs)=>rMap L (vs[i]?)
  | _=>none
 | .call ⟨.builtin .len,⟨[x]⟩,⟨[t]⟩⟩=>eLen V.Y E L t x
 | .call ⟨.builtin .append,⟨[x,y]⟩,⟨[t,tx]⟩⟩=>eAppend V.Y E L N t tx x y
 | .call ⟨.builtin .min,⟨[x,y]⟩,_⟩=>eMinMax E L false x y
 | .call ⟨.builtin .max,⟨[x,y]⟩,_⟩=>eMinMax E L true x y
 | _=>none
theorem eStd_ok {R:Res} (h:eStd V o E L N=some R):LO P o E (lkH L) N R.rd R.wr R.v (lkH R.L):=by
 unfold eStd at h
 split at h<;>first|(cases h;done)|skip
 ·rename_i x ho;obtain ⟨b,hb,rfl⟩:=rMap_ok L h;exact .move ho hb
 ·rename_i x ho;obtain ⟨b,hb,rfl⟩:=rMap_ok L h;exact .assign ho hb
 ·rename_i c a b ho
  split at h<;>first|(cases h;done)|skip
  ·rename_i hc;obtain ⟨d,hd,rfl⟩:=rMap_ok L h;exact .pick_t ho hc rfl hd
  ·rename_i hc;obtain ⟨d,hd,rfl⟩:=rMap_ok L h;exact .pick_f ho hc rfl hd
 ·rename_i ho;exact eAlloc_ok V.Y o E L N ho h
 ·rename_i ho;exact eBox_ok o E L N ho h
 ·rename_i ho;exact eBuild_ok V.Y o E L N ho h
 ·rename_i ho;exact eBuildSlice_ok V.Y o E L N ho h
 ·rename_i ho;exact eLoad_ok V.Y o E L N ho h
 ·rename_i ho;exact eStore_ok V.Y o E L N ho h
 ·rename_i x ho
  split at h<;>first|(cases h;done)|skip
  ·rename_i hx;injection h with h;subst h;exact .nilCheck ho hx
  ·rename_i hx;injection h with h;subst h;exact .nilCheck_imm ho hx
 ·rename_i ho;exact eBin_ok V.Y o E L N ho h
 ·rename_i ho;exact eUn_ok o E L N ho h
 ·rename_i ho;exact eConv_ok V.Y o E L N ho h
 ·rename_i g caps ho
  split at h<;>first|(cases h;done)|skip
  ·rename_i r off hcs
   injection h with h;subst h
   exact LO.makeCloo (o:=o) (E:=E) ho (mapOO_ok hcs)
  rename_i cs _ hcs
  split at h<;>first|(cases h;done)|skip
  rename_i hp
  injection h with h;subst h
  exact .makeClo ho (mapOO_ok hcs) hp
 ·rename_i ho;exact eMakeSlice_ok V.Y o E L N ho h
 ·rename_i ho;exact eSlice_ok V.Y o E L N ho h
 ·rename_i ho;exact eFieldAddr_ok V.Y o E L N ho h
 ·rename_i ho;exact eField_ok V.Y o E L N ho h
 ·rename_i ho;exact eIndexAddr_ok V.Y o E L N ho h
 ·rename_i ho;exact eIndex_ok V.Y o E L N ho h
 ·rename_i x i ho
  split at h<;>first|(cases h;done)|skip
  rename_i vs hx
  obtain ⟨b,hb,rfl⟩:=rMap_ok L h
  exact .extract ho hx hb
 ·rename_i ho;exact eLen_ok V.Y o E L N ho h
 ·rename_i ho;exact eAppend_ok V.Y o E L N ho h
 ·rename_i ho;exact eMinMax_ok o E L N (mx:=false) ho h
 ·rename_i ho;exact eMinMax_ok o E L N (mx:=true) ho h
def orElse (a b:Option Res):Option Res:=match a with
 | some r=>some r
 | none=>b
def eOp:Option Res:=match o.op with
 | .call ⟨.value z,xs,_ts⟩=>match V.ext o E L N with
  | some r=>some r
  | none=>eCall V rec E L N z xs.toList
 | .alloc _=>match V.ext o E L N with
  | some r=>some r
  | none=>eStd V o E L N
 | .call ⟨.builtin .append,_,_⟩=>match V.ext o E L N with
  | some r=>some r
  | none=>eStd V o E L N
 | _=>match eStd V o E L N with
  | some r=>some r
  | none=>V.ext o E L N
theorem eOp_ok (hrec:RecOK P rec) {R:Res} (h:eOp V rec o E L N=some R):LOM P o E (lkH L) N V.c R.rd R.wr R.v (lkH R.L):=by
 unfold eOp at h
 split at h
 ·rename_i z xs ts ho
  split at h
  ·rename_i r hr
   injection h with h;subst h
   exact (V.extOk _ _ _ _ _ hr).toM V.c0
  ·exact eCall_ok V rec o E L N hrec ho h
 ·split at h
  ·rename_i r hr
   injection h with h;subst h
   exact (V.extOk _ _ _ _ _ hr).toM V.c0
  ·exact (eStd_ok V o E L N h).toM V.c0
 ·split at h
  ·rename_i r hr
   injection h with h;subst h
   exact (V.extOk _ _ _ _ _ hr).toM V.c0
  ·exact (eStd_ok V o E L N h).toM V.c0
 ·split at h
  ·rename_i r hr
   injection h with h;subst h
   exact (eStd_ok V o E L N hr).toM V.c0
  ·exact (V.extOk _ _ _ _ _ h).toM V.c0
end
inductive Tr where
 | lf
 | nd (v:Option AV) (l r:Tr)
def Tr.get:Tr→Nat→Option AV
 | .lf,_=>none
 | .nd v l r,k=>match k with
  | 0=>v
  | j + 1=>match Nat.beq (Nat.mod j 2) 0 with
   | true=>l.get (Nat.div j 2)
   | false=>r.get (Nat.div j 2)
def Tr.put:Nat→Tr→Nat→AV→Tr
 | 0,T,_,_=>T
 | f + 1,T,k,v=>match T with
  | .lf=>match k with
   | 0=>.nd (some v) .lf .lf
   | j + 1=>match Nat.beq (Nat.mod j 2) 0 with
    | true=>.nd none (Tr.put f .lf (Nat.div j 2) v) .lf
    | false=>.nd none .lf (Tr.put f .lf (Nat.div j 2) v)
  | .nd u l r=>match k with
   | 0=>.nd (some v) l r
   | j + 1=>match Nat.beq (Nat.mod j 2) 0 with
    | true=>.nd u (Tr.put f l (Nat.div j 2) v) r
    | false=>.nd u l (Tr.put f r (Nat.div j 2) v)
theorem Tr.get_nd (v:Option AV) (l r:Tr) (j:Nat):(Tr.nd v l r).get (j + 1)=if j % 2=0 then l.get (j / 2) else r.get (j / 2):=by
 have e:(Tr.nd v l r).get (j + 1)=match Nat.beq (Nat.mod j 2) 0 with
  | true=>l.get (Nat.div j 2)
  | false=>r.get (Nat.div j 2):=by conv=>lhs;rw [Tr.get]
 rw [e]
 cases h:Nat.beq (Nat.mod j 2) 0 with
 | true =>
  have h:j % 2=0:=Nat.eq_of_beq_eq_true h
  rw [if_pos h];rfl
 | false =>
  have h:¬ j % 2=0:=Nat.ne_of_beq_eq_false h
  rw [if_neg h];rfl
theorem Tr.put_get:∀ (f:Nat) (T:Tr) (k:Nat) (v:AV) (x:Nat),k + 1 < 2 ^ f→(T.put f k v).get x=if x=k then some v else T.get x
 | 0,T,k,v,x,h=>by simp at h
 | f + 1,T,k,v,x,h=>by
  have hlf:∀ x,Tr.lf.get x=none:=fun x=>rfl
  have h2:2 ^ (f + 1)=2 * 2 ^ f:=by rw [Nat.pow_succ];omega
  cases k with
  | zero =>
   cases T with
   | lf =>
    show (Tr.nd (some v) .lf .lf).get x=_
    cases x with
    | zero=>rfl
    | succ i=>rw [Tr.get_nd];simp [hlf]
   | nd u l r =>
    show (Tr.nd (some v) l r).get x=_
    cases x with
    | zero=>rfl
    | succ i=>rw [Tr.get_nd,Tr.get_nd];simp
  | succ j =>
   have ih:=fun (T:Tr) (x:Nat)=>Tr.put_get f T (j / 2) v x (by omega)
   have key:∀ (u:Option AV) (l r:Tr),(match Nat.beq (Nat.mod j 2) 0 with
    | true=>Tr.nd u (Tr.put f l (Nat.div j 2) v) r
    | false=>Tr.nd u l (Tr.put f r (Nat.div j 2) v)).get x=if x=j + 1 then some v else (Tr.nd u l r).get x:=by
    intro u l r
    cases hb:Nat.beq (Nat.mod j 2) 0 with
    | true =>
     have hb:j % 2=0:=Nat.eq_of_beq_eq_true hb
     show (Tr.nd u (Tr.put f l (j / 2) v) r).get x=_
     cases x with
     | zero=>simp [Tr.get]
     | succ i =>
      rw [Tr.get_nd,Tr.get_nd,ih]
      by_cases e:i=j
      ·subst e;simp [hb]
      ·by_cases hi:i % 2=0
       ·have:i / 2≠j / 2:=by omega
        simp [hi,this,e]
       ·simp [hi,e]
    | false =>
     have hb:¬ j % 2=0:=Nat.ne_of_beq_eq_false hb
     show (Tr.nd u l (Tr.put f r (j / 2) v)).get x=_
     cases x with
     | zero=>simp [Tr.get]
     | succ i =>
      rw [Tr.get_nd,Tr.get_nd,ih]
      by_cases e:i=j
      ·subst e;simp [hb]
      ·by_cases hi:i % 2=0
       ·simp [hi,e]
       ·have:i / 2≠j / 2:=by omega
        simp [hi,this,e]
   cases T with
   | lf =>
    have:=key none .lf .lf
    show (match Nat.beq (Nat.mod j 2) 0 with
     | true=>Tr.nd none (Tr.put f .lf (Nat.div j 2) v) .lf
     | false=>Tr.nd none .lf (Tr.put f .lf (Nat.div j 2) v)).get x=_
    rw [this]
    have e:(Tr.nd none .lf .lf).get x=Tr.lf.get x:=by
     cases x with
     | zero=>rfl
     | succ i=>rw [Tr.get_nd];simp [hlf]
    rw [e]
   | nd u l r=>exact key u l r
def Tr.toL:Tr→List AV
 | .lf=>[]
 | .nd v l r=>match v with
  | some a=>a::(l.toL++r.toL)
  | none=>l.toL++r.toL
abbrev TL:=Tr
def tpOf (T:TL):Tp:=fun t=>T.get t
def putL (T:TL):Option Tmp→AV→TL
 | some t,v=>T.put 12 t v
 | none,_=>T
theorem putL_ok {T:TL} {d:Option Tmp} {v:AV} (h:∀ t:Nat,d=some t→t < 4000):tpOf (putL T d v)=putT (tpOf T) d v:=by
 cases d with
 | none=>rfl
 | some t =>
  funext x
  have:=Tr.put_get 12 T t v x (by have:=h t rfl;omega)
  show (T.put 12 t v).get x=up T.get t (some v) x
  rw [this]
  by_cases e:x=t
  ·subst e;rw [if_pos rfl,up_at]
  ·rw [if_neg e,up_ne e]
def initL:Nat→List AV→TL→TL
 | _,[],T=>T
 | i,a::l,T=>initL (i + 1) l (T.put 12 i a)
theorem initL_ok:∀ (l:List AV) (i:Nat) (T:TL) (x:Nat),i + l.length < 4000→(initL i l T).get x=if i≤x∧x < i + l.length then l[x - i]? else T.get x:=by
 intro l
 induction l with
 | nil=>intro i T x _;simp [initL];omega
 | cons a l ih =>
  intro i T x h
  unfold initL
  simp only [List.length_cons] at h ⊢
  rw [ih _ _ _ (by omega),Tr.put_get 12 T i a x (by omega)]
  by_cases h1:x=i
  ·subst h1
   rw [if_neg (by omega),if_pos rfl,if_pos (by omega)]
   simp
  ·by_cases h2:i≤x∧x < i + (l.length + 1)
   ·rw [if_pos (by omega),if_pos h2,show x - i=(x - (i + 1)) + 1 from by omega]
    simp
   ·rw [if_neg (by omega),if_neg h1,if_neg h2]
def dstsB (n:Nat):List Oper→Bool
 | []=>true
 | o::l=>match o.dst with
  | some t=>match Nat.blt t n with
   | true=>dstsB n l
   | false=>false
  | none=>dstsB n l
theorem dstsB_ok {n:Nat}:∀ {l:List Oper},dstsB n l=true→dstsLt l n=true:=by
 intro l
 induction l with
 | nil=>intro _;rfl
 | cons o l ih =>
  intro h
  unfold dstsB at h
  unfold dstsLt at ih ⊢
  rw [List.all_cons,Bool.and_eq_true]
  split at h
  ·rename_i t ht
   split at h
   ·rename_i hb
    exact ⟨by rw [ht];simpa using hb,ih h⟩
   ·cases h
  ·rename_i ht
   exact ⟨by rw [ht],ih h⟩
section
variable {P:Program} (V:Env P) (rec:Rec)
def evOps (ops:Array Oper) (m:Nat):Nat→List Oper→TL→HL→List (List Nat × List Nat)→Option (TL × HL × List (List Nat × List Nat))
 | _,[],T,L,acc=>some (T,L,acc)
 | i,o::l,T,L,acc=>match runsT ops (tpOf T) o with
  | some true=>match fNat (m + i * V.c) fun N=>eOp V rec o (ev (tpOf T)) L N with
   | some ⟨rd,wr,v,L'⟩=>fAV v fun v=>fSp wr fun wr=>fHL wr L' fun L'=>evOps ops m (i + 1) l (putL T o.dst v) L' ((rd,wr)::acc)
   | none=>none
  | some false=>evOps ops m (i + 1) l (putL T o.dst (.base undef)) L (([],[])::acc)
  | none=>none
theorem evOps_ok (hrec:RecOK P rec) {ops:Array Oper} {m n:Nat}:∀ {l:List Oper} {i:Nat} {T T':TL} {L L':HL} {acc acc':List (List Nat × List Nat)},evOps V rec ops m i l T L acc=some (T',L',acc')→n < 4000→dstsLt l n=true →
 ∀ K:Tp→Hp→List (List Nat × List Nat)→Prop,K (tpOf T') (lkH L') acc'→RWN P ops m V.c K i l (tpOf T) (lkH L) acc:=by
 intro l
 induction l with
 | nil =>
  intro i T T' L L' acc acc' h hT _
  simp only [evOps,Option.some.injEq,Prod.mk.injEq] at h
  obtain ⟨rfl,rfl,rfl⟩:=h
  exact fun K hK=>.nil hK
 | cons o l ih =>
  intro i T T' L L' acc acc' h hT hd
  have hd0:∀ t:Nat,o.dst=some t→t < 4000:=fun t ht=>Nat.lt_trans (dstsLt_at (i:=0) hd rfl t ht) hT
  have hd1:dstsLt l n=true:=by
   unfold dstsLt at hd ⊢
   rw [List.all_cons,Bool.and_eq_true] at hd
   exact hd.2
  unfold evOps at h
  split at h<;>first|(cases h;done)|skip
  ·rename_i hg
   split at h<;>first|(cases h;done)|skip
   rename_i rd wr v L1 hR
   rw [fNat_eq] at hR
   rw [fAV_eq,fSp_eq,fHL_eq] at h
   have h2:=ih h hT hd1
   exact fun K hK=>.op hg (eOp_ok V rec o _ _ _ hrec hR) (by rw [← putL_ok hd0];exact h2 K hK)
  ·rename_i hg
   have h2:=ih h hT hd1
   exact fun K hK=>.skip hg (by rw [← putL_ok hd0];exact h2 K hK)
abbrev CS:=Option (Exit × Nat × TL × HL)
def gcE (T:TL) (L:HL):HL:=match Nat.ble L.length 12 with
 | true=>L
 | false=>keepH (memN (closeN L 200 0 (addN [] (T.toL.flatMap names3)))) L
theorem gcE_lk (T:TL) (L:HL):∀ r cs,lkH (gcE T L) r=some cs→lkH L r=some cs:=by
 intro r cs h
 unfold gcE at h
 split at h
 ·exact h
 ·exact (keepH_lk _ _ r cs h).1
def loopE (f:Nat→TL→HL→CS):Nat→Nat→TL→HL→CS
 | 0,_,_,_=>none
 | r + 1,m,T,L=>match f m T (gcE T L) with
  | some (.normal,m',T',L')=>loopE f r m' T' L'
  | x=>x
def evC (n:Nat):Code→Nat→TL→HL→CS
 | .skip,m,T,L=>some (.normal,m,T,L)
 | .region _ ops d,m,T,L=>match dstsB n ops.toList with
  | true=>match evOps V rec ops m 0 ops.toList T L [] with
   | some (T',L',acc)=>match !d || indep ops acc with
    | true=>fNat (m + ops.size * V.c) fun m'=>some (.normal,m',T',L')
    | false=>none
   | none=>none
  | false=>none
 | .seq a b,m,T,L=>match evC n a m T L with
  | some (.normal,m',T',L')=>evC n b m' T' L'
  | x=>x
 | .cond x a b,m,T,L=>match ev (tpOf T) x with
  | some (.base (.bool true))=>evC n a m T L
  | some (.base (.bool false))=>evC n b m T L
  | _=>none
 | .block id b,m,T,L=>match evC n b m T L with
  | some (.exit j,m',T',L')=>match Nat.beq j id with
   | true=>some (.normal,m',T',L')
   | false=>some (.exit j,m',T',L')
  | x=>x
 | .loop b,m,T,L=>loopE (evC n b) 100000 m T L
 | .exit id,m,T,L=>some (.exit id,m,T,L)
 | .ret,m,T,L=>some (.ret,m,T,L)
 | _,_,_,_=>none
def EvOK (k n:Nat) (c:Code) (f:Nat→TL→HL→CS):Prop:=∀ m T L e m' T' L',f m T L=some (e,m',T',L')→∀ K:Exit→Nat→Tp→Hp→Prop,K e m' (tpOf T') (lkH L')→W P k n c m (tpOf T) (lkH L) K
theorem loopE_ok {k n:Nat} {c:Code} {f:Nat→TL→HL→CS} (hf:EvOK (P:=P) k n c f):∀ r m T L e m' T' L',loopE f r m T L=some (e,m',T',L')→∀ K:Exit→Nat→Tp→Hp→Prop,K e m' (tpOf T') (lkH L')→WLn P k n c K r m (tpOf T) (lkH L):=by
 intro r
 induction r with
 | zero=>intro m T L e m' T' L' h;cases h
 | succ r ih =>
  intro m T L e m' T' L' h
  unfold loopE at h
  split at h
  ·rename_i m1 T1 L1 h1
   have a2:=hf _ _ _ _ _ _ _ h1
   have b2:=ih _ _ _ _ _ _ _ h
   exact fun K hK=>W.forget (a2 _ (b2 K hK)) (fun _ _ h=>h) (gcE_lk T L)
  ·rename_i hne
   have a2:=hf _ _ _ _ _ _ _ h
   refine fun K hK=>W.forget (a2 _ ?_) (fun _ _ h=>h) (gcE_lk T L)
   cases e with
   | normal=>exact absurd h (hne _ _ _)
   | _=>exact hK
theorem evC_ok (hrec:RecOK P rec) {k n:Nat} (hn:n < 4000):∀ c,EvOK (P:=P) k n c (evC V rec n c):=by
 intro c
 induction c with
 | skip =>
  intro m T L e m' T' L' h
  simp only [evC,Option.some.injEq,Prod.mk.injEq] at h
  obtain ⟨rfl,rfl,rfl,rfl⟩:=h
  exact fun K hK=>.skip hK
 | region id ops d =>
  intro m T L e m' T' L' h
  unfold evC at h
  split at h<;>first|(cases h;done)|skip
  rename_i hd
  have hd:=dstsB_ok hd
  split at h<;>first|(cases h;done)|skip
  rename_i T1 L1 acc h1
  split at h<;>first|(cases h;done)|skip
  rename_i hi
  rw [fNat_eq] at h
  simp only [Option.some.injEq,Prod.mk.injEq] at h
  obtain ⟨rfl,rfl,rfl,rfl⟩:=h
  have a2:=evOps_ok V rec hrec h1 hn hd
  refine fun K hK=>.regionN V.c V.mixed hd (a2 _ ⟨fun hd1=>?_,hK⟩)
  subst hd1
  simpa using hi
 | seq a b iha ihb =>
  intro m T L e m' T' L' h
  unfold evC at h
  split at h
  ·rename_i m1 T1 L1 h1
   have a2:=iha _ _ _ _ _ _ _ h1
   have b2:=ihb _ _ _ _ _ _ _ h
   exact fun K hK=>.seq (a2 _ (b2 K hK))
  ·rename_i hne
   have a2:=iha _ _ _ _ _ _ _ h
   refine fun K hK=>.seq (a2 _ ?_)
   cases e with
   | normal=>exact absurd h (hne _ _ _)
   | _=>exact hK
 | cond x a b iha ihb =>
  intro m T L e m' T' L' h
  unfold evC at h
  split at h<;>first|(cases h;done)|skip
  ·rename_i hx
   have a2:=iha _ _ _ _ _ _ _ h
   exact fun K hK=>.cond_t hx rfl (a2 K hK)
  ·rename_i hx
   have a2:=ihb _ _ _ _ _ _ _ h
   exact fun K hK=>.cond_f hx rfl (a2 K hK)
 | block id b ih =>
  intro m T L e m' T' L' h
  unfold evC at h
  split at h
  ·rename_i j m1 T1 L1 h1
   have a2:=ih _ _ _ _ _ _ _ h1
   split at h<;>rename_i hb<;>simp only [Option.some.injEq,Prod.mk.injEq] at h<;>obtain ⟨rfl,rfl,rfl,rfl⟩:=h
   ·exact fun K hK=>.block (a2 _ (by simp only [blockK,hb];exact hK))
   ·exact fun K hK=>.block (a2 _ (by simp only [blockK,hb];exact hK))
  ·rename_i hne
   have a2:=ih _ _ _ _ _ _ _ h
   refine fun K hK=>.block (a2 _ ?_)
   cases e with
   | exit j=>exact absurd h (hne _ _ _ _)
   | _=>exact hK
 | loop b ih =>
  intro m T L e m' T' L' h
  have a2:=loopE_ok ih _ _ _ _ _ _ _ _ h
  exact fun K hK=>.loop ⟨_,a2 K hK⟩
 | exit id =>
  intro m T L e m' T' L' h
  simp only [evC,Option.some.injEq,Prod.mk.injEq] at h
  obtain ⟨rfl,rfl,rfl,rfl⟩:=h
  exact fun K hK=>.exit hK
 | ret =>
  intro m T L e m' T' L' h
  simp only [evC,Option.some.injEq,Prod.mk.injEq] at h
  obtain ⟨rfl,rfl,rfl,rfl⟩:=h
  exact fun K hK=>.ret hK
 | _=>intro m T L e m' T' L' h;cases h
def resE (T:TL) (L:HL):List ResultVar→Option (List AV)
 | []=>some []
 | .tmp t::rs=>match tpOf T t with
  | some v=>match resE T L rs with
   | some vs=>some (v::vs)
   | none=>none
  | none=>none
 | .cell t ty::rs=>match tpOf T t with
  | some (.own r off)=>match lkH L r,V.Y.tab ty with
   | some cs,some (l,s,_,_)=>match l.agg with
    | true=>match tkE cs off s,resE T L rs with
     | some v,some vs=>some (.agg v::vs)
     | _,_=>none
    | false=>match cs[off]?,resE T L rs with
     | some v,some vs=>some (v::vs)
     | _,_=>none
   | _,_=>none
  | _=>none
theorem resE_ok {T:TL} {L:HL}:∀ {rs:List ResultVar} {vs:List AV},resE V T L rs=some vs→RVs P (tpOf T) (lkH L) rs vs:=by
 intro rs
 induction rs with
 | nil=>intro vs h;injection h with h;subst h;exact .nil
 | cons r rs ih =>
  intro vs h
  cases r with
  | tmp t =>
   unfold resE at h
   split at h<;>first|(cases h;done)|skip
   rename_i v hv
   split at h<;>first|(cases h;done)|skip
   rename_i vs' hvs
   injection h with h;subst h
   exact .cons (.tmp hv) (ih hvs)
  | cell t ty =>
   unfold resE at h
   split at h<;>first|(cases h;done)|skip
   rename_i r off ht
   split at h<;>first|(cases h;done)|skip
   rename_i cs l s b z hl hty
   split at h<;>rename_i hg<;>(split at h<;>first|(cases h;done)|skip)<;>rename_i v vs' hv hvs<;>(injection h with h;subst h)
   ·exact .cons (.cellA ht hl (V.Y.ok _ _ _ _ _ hty) hg (tkE_ok hv)) (ih hvs)
   ·exact .cons (.cell ht hl (V.Y.ok _ _ _ _ _ hty) hg hv) (ih hvs)
def endsE:Exit→Bool
 | .ret|.normal=>true
 | _=>false
theorem endsE_ok {e:Exit} (h:endsE e=true):e=.ret∨e=.normal:=by
 cases e<;>first|exact .inl rfl|exact .inr rfl|cases h
def bodyE (fn:Func) (code:Code) (k:Nat) (args:List AV) (L:HL):Option (AV × HL) :=
 match Nat.ble args.length fn.ntmps && Nat.blt fn.ntmps 4000 with
 | true=>match evC V rec fn.ntmps code k (initL 0 args .lf) L with
  | some (e,_,T',L')=>match endsE e with
   | true=>match resE V T' L' fn.results.toList with
    | some vs=>some (retOf vs,L')
    | none=>none
   | false=>none
  | none=>none
 | false=>none
theorem bodyE_ok (hrec:RecOK P rec) {g:FuncId} {fn:Func} {code:Code} {k:Nat} {args:List AV} {L L':HL} {v:AV} (hf:P.funcs[g]?=some fn) (hb:fn.body=some code) (h:bodyE V rec fn code k args L=some (v,L')):AFn P g k args (lkH L) v (lkH L'):=by
 unfold bodyE at h
 split at h<;>first|(cases h;done)|skip
 rename_i hl
 rw [Bool.and_eq_true] at hl
 have hn:fn.ntmps < 4000:=by simpa using hl.2
 have hl:=Nat.le_of_ble_eq_true hl.1
 split at h<;>first|(cases h;done)|skip
 rename_i e m' T' L1 hev
 split at h<;>first|(cases h;done)|skip
 rename_i he
 split at h<;>first|(cases h;done)|skip
 rename_i vs hvs
 simp only [Option.some.injEq,Prod.mk.injEq] at h
 obtain ⟨rfl,rfl⟩:=h
 have a2:=evC_ok V rec hrec (k:=k) (n:=fn.ntmps) hn code _ _ _ _ _ _ _ hev
 refine AFn.eq hf hb rfl hl ?_
 have e1:(fun t=>args[t]?)=tpOf (initL 0 args .lf):=by
  funext t
  have:=initL_ok args 0 .lf t (by omega)
  show args[t]?=(initL 0 args .lf).get t
  rw [this]
  by_cases ht:t < args.length
  ·rw [if_pos (by omega)];rfl
  ·rw [if_neg (by omega),List.getElem?_eq_none (by omega)];rfl
 rw [e1]
 exact a2 _ ⟨endsE_ok he,vs,_,resE_ok V hvs,fun _ _ h=>h,rfl,rfl⟩
def runE:Nat→Rec
 | 0,_,_,_,_=>none
 | f + 1,g,k,args,L=>match V.kn g k args L with
  | some r=>some r
  | none=>match V.fns g with
   | some fn=>match fn.body with
    | some code=>bodyE V (runE f) fn code k args L
    | none=>none
   | none=>none
theorem runE_ok (f:Nat):RecOK P (runE V f):=by
 induction f with
 | zero=>intro g k args L v L' h;cases h
 | succ f ih =>
  intro g k args L v L' h
  unfold runE at h
  split at h
  ·rename_i r hr
   injection h with h;subst h
   exact V.knOk _ _ _ _ _ _ hr
  ·split at h<;>first|(cases h;done)|skip
   rename_i fn hfn
   obtain ⟨h1,h2⟩:=V.fnsOk _ _ hfn
   split at h<;>first|(cases h;done)|skip
   rename_i code hb
   exact ⟨⟨fn,h1,h2,by rw [hb];rfl⟩,bodyE_ok V _ ih h1 hb h⟩
theorem AFn.run {g:FuncId} {args:List AV} {v:AV} (f:Nat) (h:(match runE V f g 0 args [] with|some (u,_)=>some u|none=>none)=some v):AFn P g 0 args mt v mt:=by
 split at h<;>first|(cases h;done)|skip
 rename_i u L' hr
 injection h with h;subst h
 exact ((runE_ok V f _ _ _ _ _ _ hr).2).drop fun r cs hr=>by cases hr
end
section
variable {P:Program} {o:Oper} {E:Operand→Option AV} {H:Hp} {f:Nat} {t ty:TypeId} {x y:Operand}
theorem lay_ptr {e size bytes:Nat} {zero:List AV} (ht:TyOK P t (.ptr e) size bytes zero):P.underlying t=some (.pointer e):=by
 obtain ⟨d,inf,z,h1,h2,_⟩:=ht.spec
 cases d<;>simp only [layOf] at h2<;>try (cases h2;done)
 injection h2 with h2
 rw [h1,h2]
def cmpOp (neg:Bool):BinOp:=match neg with
 | true=>.neq
 | false=>.eql
def cmpV (neg b:Bool):Bool:=match neg with
 | true=>!b
 | false=>b
theorem LO.cmp {a c:AV} {b:Bool} (neg:Bool) (ho:o.op=.binOp (cmpOp neg) t x y ty) (hx:E x=some a) (hy:E y=some c)
 (h:∀ (X:Nat→Prop) (φ:Em) (w:World) (u v:Value),Rep X w φ u a→Rep X w φ v c→(∀ op,(eqGuard op t x y u v).run P w=.ok () w)∧(Op.equal t u v).run P w=.ok b w∧(∀ op,op=.eql∨op=.neq→Go.binOp op t u v=(do Pure.pure (Value.bool (cmpV (op == .neq) (← Op.equal t u v))):Sem Value))):LO P o E H f [] [] (.base (.bool (cmpV neg b))) H :=
 .pure fun X φ w ρ hR=>by
  obtain ⟨h1,h2,h3⟩:=h X φ w (ρ x) (ρ y) (hR x (by simp [ho,Op.operands]) _ hx) (hR y (by simp [ho,Op.operands]) _ hy)
  refine ⟨.bool (cmpV neg b),?_,.base _⟩
  have h4:=h3 (cmpOp neg) (by cases neg<;>simp [cmpOp])
  have h5:(cmpOp neg == BinOp.neq)=neg:=by cases neg<;>rfl
  rw [h5] at h4
  simp [execOp,ho,h1,h4,h2]
theorem rep_nilp {X:Nat→Prop} {φ:Em} {w:World} {u:Value} {a:AV} (ha:a=.base (.pointer none)∨∃ r s n,a=.tyOf r s n) (h:Rep X w φ u a):u=.pointer none:=by
 rcases ha with rfl|⟨r,s,n,rfl⟩
 ·exact h.base_eq
 ·cases h;rfl
theorem LO.cmpPN {r off e size bytes:Nat} {zero:List AV} (neg:Bool) (ho:o.op=.binOp (cmpOp neg) t x y ty) (hx:E x=some (.own r off)) (hy:E y=some (.base (.pointer none))) (ht:TyOK P t (.ptr e) size bytes zero):LO P o E H f [] [] (.base (.bool (cmpV neg false))) H :=
 .cmp neg ho hx hy fun X φ w u v hu hv=>by
  obtain ⟨b,o',_,rfl,_⟩:=hu.own_inv
  obtain rfl:=hv.base_eq
  refine ⟨fun op=>by simp [eqGuard],?_,fun op hop=>by rcases hop with rfl|rfl<;>rfl⟩
  have h:∀ d:Nat,(Op.equalIn (d + 1) t (.pointer (some ⟨b,o' + off,none⟩)) (.pointer none)).run P w=.ok false w:=fun d=>by
   simp [Op.equalIn,run_underlying (lay_ptr ht)]
  exact h 9999
theorem LO.cmpNN {a:AV} {e size bytes:Nat} {zero:List AV} (neg:Bool) (ho:o.op=.binOp (cmpOp neg) t x y ty) (hx:E x=some a) (ha:a=.base (.pointer none)∨∃ r s n,a=.tyOf r s n) (hy:E y=some (.base (.pointer none))) (ht:TyOK P t (.ptr e) size bytes zero):LO P o E H f [] [] (.base (.bool (cmpV neg true))) H :=
 .cmp neg ho hx hy fun X φ w u v hu hv=>by
  obtain rfl:=rep_nilp ha hu
  obtain rfl:=hv.base_eq
  refine ⟨fun op=>by simp [eqGuard],?_,fun op hop=>by rcases hop with rfl|rfl<;>rfl⟩
  have h:∀ d:Nat,(Op.equalIn (d + 1) t (.pointer none) (.pointer none)).run P w=.ok true w:=fun d=>by
   simp [Op.equalIn,run_underlying (lay_ptr ht)]
  exact h 9999
theorem LO.cmpSame {r off e size bytes:Nat} {zero:List AV} {l:Lay} {s b':Nat} {z:List AV} (neg:Bool) (ho:o.op=.binOp (cmpOp neg) t x y ty) (hx:E x=some (.own r off)) (hy:E y=some (.own r off)) (ht:TyOK P t (.ptr e) size bytes zero) (he:TyOK P e l s b' z):LO P o E H f [] [] (.base (.bool (cmpV neg true))) H :=
 .cmp neg ho hx hy fun X φ w u v hu hv=>by
  obtain ⟨b,o',h1,rfl,_⟩:=hu.own_inv
  obtain ⟨b2,o2,h2,rfl,_⟩:=hv.own_inv
  rw [h1] at h2
  injection h2 with h2
  injection h2 with e1 e2
  subst e1 e2
  obtain ⟨i,zz,hi,_⟩:=info_of he
  refine ⟨fun op=>by simp [eqGuard],?_,fun op hop=>by rcases hop with rfl|rfl<;>rfl⟩
  have h:∀ d:Nat,(Op.equalIn (d + 1) t (.pointer (some ⟨b,o' + off,none⟩)) (.pointer (some ⟨b,o' + off,none⟩))).run P w=.ok true w:=fun d=>by
   simp [Op.equalIn,run_underlying (lay_ptr ht),sizeOf,typeInfo,hi,run_sameAddr_same]
  exact h 9999
theorem LO.cmpSN {r off len sz e size bytes:Nat} {zero:List AV} (neg:Bool) (ho:o.op=.binOp (cmpOp neg) t x y ty) (hx:E x=some (.osl r off len sz)) (hl:0 < len) (hy:E y=some .nils) (ht:TyOK P t (.sl e) size bytes zero):LO P o E H f [] [] (.base (.bool (cmpV neg false))) H :=
 .cmp neg ho hx hy fun X φ w u v hu hv=>by
  obtain ⟨A,cap,rfl,_,⟨h0,_⟩|⟨b,o',_,rfl,_⟩⟩:=hu.osl_inv
  ·omega
  have e2:v=.slice none 0 0:=by cases hv;rfl
  subst e2
  refine ⟨fun op=>by simp [eqGuard],?_,fun op hop=>by rcases hop with rfl|rfl<;>rfl⟩
  have h:∀ d:Nat,(Op.equalIn (d + 1) t (.slice (some ⟨b,o' + off,none⟩) len cap) (.slice none 0 0)).run P w=.ok false w:=fun d=>by
   simp [Op.equalIn,run_underlying (lay_sl ht)]
  exact h 9999
theorem LO.cmpNS {e size bytes:Nat} {zero:List AV} (neg:Bool) (ho:o.op=.binOp (cmpOp neg) t x y ty) (hx:E x=some .nils) (hy:E y=some .nils) (ht:TyOK P t (.sl e) size bytes zero):LO P o E H f [] [] (.base (.bool (cmpV neg true))) H :=
 .cmp neg ho hx hy fun X φ w u v hu hv=>by
  have e1:u=.slice none 0 0:=by cases hu;rfl
  have e2:v=.slice none 0 0:=by cases hv;rfl
  subst e1 e2
  refine ⟨fun op=>by simp [eqGuard],?_,fun op hop=>by rcases hop with rfl|rfl<;>rfl⟩
  have h:∀ d:Nat,(Op.equalIn (d + 1) t (.slice none 0 0) (.slice none 0 0)).run P w=.ok true w:=fun d=>by
   simp [Op.equalIn,run_underlying (lay_sl ht)]
  exact h 9999
theorem LO.cmpII {c:Value} {ms:_} (neg:Bool) (ho:o.op=.binOp (cmpOp neg) t x (.const c) ty) (hx:E x=some (.base .nilIface)) (hy:E (.const c)=some (.base .nilIface)) (ht:P.underlying t=some (.interface ms)):LO P o E H f [] [] (.base (.bool (cmpV neg true))) H :=
 .cmp neg ho hx hy fun X φ w u v hu hv=>by
  obtain rfl:=hu.base_eq
  obtain rfl:=hv.base_eq
  refine ⟨fun op=>by simp [eqGuard],?_,fun op hop=>by rcases hop with rfl|rfl<;>rfl⟩
  have h:∀ d:Nat,(Op.equalIn (d + 1) t .nilIface .nilIface).run P w=.ok true w:=fun d=>by
   simp [Op.equalIn,run_underlying ht]
  exact h 9999
end
section
variable {P:Program} (Y:Tys P) (o:Oper) (E:Operand→Option AV) (L:HL) (N:Nat)
def isConst:Operand→Bool
 | .const _=>true
 | _=>false
def eCmp (ifs:TypeId→Bool) (neg:Bool) (t:TypeId) (x y:Operand):Option Res:=match E x,E y with
 | some (.own _r _off),some (.base (.pointer none))=>match Y.tab t with
  | some (.ptr _,_,_,_)=>some ⟨[],[],.base (.bool (cmpV neg false)),L⟩
  | _=>none
 | some (.base (.pointer none)),some (.base (.pointer none))=>match Y.tab t with
  | some (.ptr _,_,_,_)=>some ⟨[],[],.base (.bool (cmpV neg true)),L⟩
  | _=>none
 | some (.tyOf _ _ _),some (.base (.pointer none))=>match Y.tab t with
  | some (.ptr _,_,_,_)=>some ⟨[],[],.base (.bool (cmpV neg true)),L⟩
  | _=>none
 | some (.own r off),some (.own r' off')=>match Y.tab t with
  | some (.ptr e,_,_,_)=>match Y.tab e with
   | some _=>match Nat.beq r r' && Nat.beq off off' with
    | true=>some ⟨[],[],.base (.bool (cmpV neg true)),L⟩
    | false=>none
   | none=>none
  | _=>none
 | some (.osl _ _ len _),some .nils=>match Y.tab t with
  | some (.sl _,_,_,_)=>match Nat.blt 0 len with
   | true=>some ⟨[],[],.base (.bool (cmpV neg false)),L⟩
   | false=>none
  | _=>none
 | some .nils,some .nils=>match Y.tab t with
  | some (.sl _,_,_,_)=>some ⟨[],[],.base (.bool (cmpV neg true)),L⟩
  | _=>none
 | some (.base .nilIface),some (.base .nilIface)=>match ifs t && isConst y with
  | true=>some ⟨[],[],.base (.bool (cmpV neg true)),L⟩
  | false=>none
 | _,_=>none
theorem eCmp_ok {ifs:TypeId→Bool} (hifs:∀ t,ifs t=true→∃ ms,P.underlying t=some (.interface ms)) {neg:Bool} {t ty:TypeId} {x y:Operand} {R:Res} (ho:o.op=.binOp (cmpOp neg) t x y ty) (h:eCmp Y E L ifs neg t x y=some R):LO P o E (lkH L) N R.rd R.wr R.v (lkH R.L):=by
 unfold eCmp at h
 split at h<;>first|(cases h;done)|skip
 ·rename_i hx hy
  split at h<;>first|(cases h;done)|skip
  rename_i ht
  injection h with h;subst h
  exact .cmpPN neg ho hx hy (Y.ok _ _ _ _ _ ht)
 ·rename_i hx hy
  split at h<;>first|(cases h;done)|skip
  rename_i ht
  injection h with h;subst h
  exact .cmpNN neg ho hx (.inl rfl) hy (Y.ok _ _ _ _ _ ht)
 ·rename_i hx hy
  split at h<;>first|(cases h;done)|skip
  rename_i ht
  injection h with h;subst h
  exact .cmpNN neg ho hx (.inr ⟨_,_,_,rfl⟩) hy (Y.ok _ _ _ _ _ ht)
 ·rename_i r off r' off' hx hy
  split at h<;>first|(cases h;done)|skip
  rename_i ht
  split at h<;>first|(cases h;done)|skip
  rename_i p he
  obtain ⟨l1,l2,l3,l4⟩:=p
  split at h<;>first|(cases h;done)|skip
  rename_i hg
  rw [Bool.and_eq_true] at hg
  have e1:=Nat.eq_of_beq_eq_true hg.1
  have e2:=Nat.eq_of_beq_eq_true hg.2
  subst e1 e2
  injection h with h;subst h
  exact .cmpSame neg ho hx hy (Y.ok _ _ _ _ _ ht) (Y.ok _ _ _ _ _ he)
 ·rename_i hx hy
  split at h<;>first|(cases h;done)|skip
  rename_i ht
  split at h<;>first|(cases h;done)|skip
  rename_i hl
  injection h with h;subst h
  exact .cmpSN neg ho hx (by simpa using hl) hy (Y.ok _ _ _ _ _ ht)
 ·rename_i hx hy
  split at h<;>first|(cases h;done)|skip
  rename_i ht
  injection h with h;subst h
  exact .cmpNS neg ho hx hy (Y.ok _ _ _ _ _ ht)
 ·rename_i hx hy
  split at h<;>first|(cases h;done)|skip
  rename_i hg
  rw [Bool.and_eq_true] at hg
  obtain ⟨ms,hms⟩:=hifs t hg.1
  injection h with h;subst h
  cases y with
  | const c=>exact .cmpII neg ho hx hy hms
  | _=>cases hg.2
def eSlice2 (t:TypeId) (x:Operand) (lo hi mx:Option Operand):Option Res:=match lo,hi,mx with
 | none,some h,none=>match E x with
  | some .nils=>match Y.tab t with
   | some (.sl e,_,_,_)=>match Y.tab e with
    | some _=>match E h with
     | some (.base (.int .i64 (.ofNat 0)))=>some ⟨[],[],.nils,L⟩
     | _=>none
    | none=>none
   | _=>none
  | _=>none
 | none,some h,some m=>match E x with
  | some (.osl r off n sz)=>match Y.tab t with
   | some (.sl e,_,_,_)=>match Y.tab e with
    | some (_,sz',_,_)=>match eNat E h,eNat E m with
     | some (_,a),some (_,b)=>match Nat.beq a n && Nat.beq b n && Nat.blt 0 n && Nat.beq sz sz' with
      | true=>some ⟨[],[],.osl r off n sz,L⟩
      | false=>none
     | _,_=>none
    | none=>none
   | _=>none
  | _=>none
 | none,none,none=>match E x with
  | some (.imm cs off)=>match Y.tab t with
   | some (.arr n e,_,_,_)=>match Y.tab e with
    | some (_,sz,_,_)=>match tkE cs off (n * sz),Nat.blt 0 n with
     | some vs,true=>some ⟨[],[],.isl vs n,L⟩
     | _,_=>none
    | none=>none
   | _=>none
  | _=>none
 | _,_,_=>none
theorem eSlice2_ok {t:TypeId} {x:Operand} {lo hi mx:Option Operand} {R:Res} (ho:o.op=.slice t x lo hi mx) (h:eSlice2 Y E L t x lo hi mx=some R):LO P o E (lkH L) N R.rd R.wr R.v (lkH R.L):=by
 unfold eSlice2 at h
 split at h<;>first|(cases h;done)|skip
 ·split at h<;>first|(cases h;done)|skip
  rename_i hx
  split at h<;>first|(cases h;done)|skip
  rename_i ht
  split at h<;>first|(cases h;done)|skip
  rename_i p he
  obtain ⟨l1,l2,l3,l4⟩:=p
  split at h<;>first|(cases h;done)|skip
  rename_i hh
  injection h with h;subst h
  exact .slice_nil ho hx hh (Y.ok _ _ _ _ _ ht) (Y.ok _ _ _ _ _ he)
 ·split at h<;>first|(cases h;done)|skip
  rename_i r off n sz hx
  split at h<;>first|(cases h;done)|skip
  rename_i ht
  split at h<;>first|(cases h;done)|skip
  rename_i l sz' b z he
  split at h<;>first|(cases h;done)|skip
  rename_i k1 a k2 b' ha hb
  split at h<;>first|(cases h;done)|skip
  rename_i hg
  simp only [Bool.and_eq_true] at hg
  have e1:=Nat.eq_of_beq_eq_true hg.1.1.1
  have e2:=Nat.eq_of_beq_eq_true hg.1.1.2
  have e3:=Nat.eq_of_beq_eq_true hg.2
  subst e1 e2 e3
  injection h with h;subst h
  exact .slice3 ho hx (eNat_ok E ha) (eNat_ok E hb) (by simpa using hg.1.2) (Y.ok _ _ _ _ _ ht) (Y.ok _ _ _ _ _ he)
 ·split at h<;>first|(cases h;done)|skip
  rename_i cs off hx
  split at h<;>first|(cases h;done)|skip
  rename_i ht
  split at h<;>first|(cases h;done)|skip
  rename_i he
  split at h<;>first|(cases h;done)|skip
  rename_i vs hv hn
  injection h with h;subst h
  exact .slice_imm ho hx (Y.ok _ _ _ _ _ ht) (Y.ok _ _ _ _ _ he) (tkE_ok hv) (by simpa using hn)
def eZeros (t tx:TypeId) (x y:Operand):Option Res:=match eNat E y,Y.tab t,Y.tab tx with
 | some (_,n),some (.sl e,_,_,_),some (.int _,_,_,_)=>match Y.tab e with
  | some (_,sz,by',z)=>match E x with
   | some .nils=>match Nat.blt 0 sz && Nat.blt 0 n && Nat.ble (n * by') 140737488355328 && Nat.ble n 1000000 with
    | true=>some ⟨[],[N],.osl N 0 n sz,(N,[])::L⟩
    | false=>none
   | some (.osl r off len sz')=>match lkH L r with
    | some cs=>match Nat.blt 0 sz && Nat.blt 0 n && Nat.blt 0 len && Nat.ble ((len + n) * by') 140737488355328 && Nat.ble (len + n) 1000000 && !Nat.beq r N && Nat.beq sz sz' with
     | true=>match tkE cs off (len * sz) with
      | some olds=>some ⟨[],[N,r],.osl N 0 (len + n) sz,(N,olds++zerosL n z)::delH L r⟩
      | none=>none
     | false=>none
    | none=>none
   | _=>none
  | none=>none
 | _,_,_=>none
theorem eZeros_ok {t tx:TypeId} {x y:Operand} {R:Res} (ho:o.op=.call { callee:=.builtin .append,args:=#[x,y],argTypes:=#[t,tx] }) (h:eZeros Y E L N t tx x y=some R):LO P o E (lkH L) N R.rd R.wr R.v (lkH R.L):=by
 unfold eZeros at h
 split at h<;>first|(cases h;done)|skip
 rename_i k n e s1 b1 z1 k2 s2 b2 z2 hy ht htx
 split at h<;>first|(cases h;done)|skip
 rename_i l sz by' z he
 split at h<;>first|(cases h;done)|skip
 ·rename_i hx
  split at h<;>first|(cases h;done)|skip
  rename_i hg
  simp only [Bool.and_eq_true,Nat.blt_eq,Nat.ble_eq] at hg
  injection h with h;subst h
  rw [lk_cons]
  exact .append_make ho hx (eNat_ok E hy) (Y.ok _ _ _ _ _ ht) (Y.ok _ _ _ _ _ htx) (Y.ok _ _ _ _ _ he) hg.1.1.1 hg.1.1.2 hg.1.2 (by omega)
 ·rename_i r off len sz' hx
  split at h<;>first|(cases h;done)|skip
  rename_i cs hl
  split at h<;>first|(cases h;done)|skip
  rename_i hg
  simp only [Bool.and_eq_true,Nat.blt_eq,Nat.ble_eq,Bool.not_eq_true'] at hg
  have e3:=Nat.eq_of_beq_eq_true hg.2
  subst e3
  split at h<;>first|(cases h;done)|skip
  rename_i olds hv
  injection h with h;subst h
  rw [lk_cons,lk_del]
  exact .append_zeros ho hx (eNat_ok E hy) hl (tkE_ok hv) (Y.ok _ _ _ _ _ ht) (Y.ok _ _ _ _ _ htx) (Y.ok _ _ _ _ _ he) hg.1.1.1.1.1.1 hg.1.1.1.1.2 hg.1.1.1.1.1.2 hg.1.1.1.2 (by omega) (Nat.ne_of_beq_eq_false hg.1.2)
def gOf:List Operand→Option Nat
 | []=>none
 | .global g::_=>some g
 | _::l=>gOf l
def eGlob (f:(Operand→Option AV)→Option Res):Option Res:=match gOf o.op.operands.toList with
 | some g=>match gRaw g with
  | some vs=>match (vs.map AV.base).all AV.one,E (.global g) with
   | true,some (.base (.pointer (some ⟨g',0,none⟩)))=>match Nat.beq g' g with
    | true=>f (setG g (.imm (vs.map AV.base) 0) E)
    | false=>none
   | _,_=>none
  | none=>none
 | none=>none
theorem eGlob_ok {f:(Operand→Option AV)→Option Res} (hf:∀ E' R,f E'=some R→LO P o E' (lkH L) N R.rd R.wr R.v (lkH R.L)) {R:Res} (h:eGlob o E f=some R):LO P o E (lkH L) N R.rd R.wr R.v (lkH R.L):=by
 unfold eGlob at h
 split at h<;>first|(cases h;done)|skip
 rename_i g hg
 split at h<;>first|(cases h;done)|skip
 rename_i vs hvs
 split at h<;>first|(cases h;done)|skip
 rename_i g' h1 hE
 split at h<;>first|(cases h;done)|skip
 rename_i hb
 have:=Nat.eq_of_beq_eq_true hb
 subst this
 exact .glob _ hvs h1 hE (hf _ _ h)
end
section
variable {P:Program} {o:Oper} {E:Operand→Option AV} {H:Hp} {f:Nat} {t:TypeId} {x:Operand}
theorem St.more {X:Nat→Prop} {φ:Em} {K:Hp} {w w':World} {F:Nat→Prop} (hst:St X φ K w) (hos:w'.os=w.os) (htp:w'.tape=w.tape) (hout:w'.output=w.output) (hsz:w.heap.size≤w'.heap.size) (hold:∀ b,b < w.heap.size→w'.heap[b]?=w.heap[b]?) :
 Nxt K F X φ w K X φ w'∧St X φ K w':=by
 have hbs:∀ b,b < w.heap.size→bst w' b=bst w b:=fun b hb=>bsz_same (hold b hb)
 have hkeep:∀ v a,Rep X w φ v a→Rep X w' φ v a:=fun v a h=>h.keep hsz (fun b hb _=>hold b hb) hbs (fun _ _ h=>h) (fun _ _ h=>h)
 refine ⟨⟨hos,htp,hout,hsz,fun b hb _=>hold b hb,hbs,fun _ _ h=>h,fun _ _ h=>.inl h,fun _ _=>rfl,fun r cs b o' h1 h2=>.inr ⟨r,cs,o',h1,h2⟩⟩,⟨fun r cs hr=>?_,hst.2,hst.gl.keep hsz (fun b hb _=>hold b hb) (fun _ _ h=>h)⟩⟩
 obtain h1|⟨b,o',h1,h2,h3⟩:=hst.1 r cs hr
 ·exact .inl h1
 ·exact .inr ⟨b,o',h1,h2,h3.keep (hold b h3.lt) hkeep⟩
theorem LO.strO {s e r off:Nat} {xs:List Int} {cs:List AV} (ho:o.op=.convert s t x) (hx:E x=some (.osl r off xs.length 1)) (hH:H r=some cs) (hv:Tk cs off (xs.length * 1) (xs.map fun z=>.base (.int .u8 z))) (hs:P.underlying s=some (.slice e)) (he:P.underlying e=some (.int .u8)) (ht:P.underlying t=some .string):LO P o E H f [r] [] (.base (.string (strOfNums xs))) H :=
 .read r fun X φ w ρ K hR hK hst=>by
  obtain ⟨A,cap,e1,hc,hcase⟩:=(hR x (by simp [ho,Op.operands]) _ hx).osl_inv
  refine ⟨.string (strOfNums xs),?_,.base _⟩
  have key:(convert s t (ρ x)).run P w=.ok (.string (strOfNums xs)) w:=by
   rw [e1]
   rcases hcase with ⟨h1,h2⟩|⟨b,o',hp,hA,hbz⟩
   ·have:xs=[]:=List.eq_nil_of_length_eq_zero h1
    subst this
    rw [run_convert_bytes_string w s t e _ _ _ hs he ht]
    cases A with
    | none=>simp [Conv.bytesToString,strOfNums];rfl
    | some a =>
     show (Conv.bytesToString (.slice (some a) 0 cap)).run P w=_
     rw [run_bytesToString w a 0 cap [] (run_loadCells_list (P:=P) w a [] (fun j v hj=>by simp at hj))]
     rfl
   ·subst hA
    obtain ⟨c,el,hX,hh,hcs⟩:=hst.cells (hK.trans hH) hp (by omega)
    refine run_convert_bytes_arg w s e hs he b (o' + off) xs.length cap xs rfl (fun i hi=>?_) t ht
    have hat:(xs.map fun z=>AV.base (.int .u8 z))[i]?=some (.base (.int .u8 xs[i])):=by simp [hi]
    obtain ⟨_,u,hu,hr⟩:=hcs _ _ (hv.2 i _ hat)
    rw [cell_of hh,Nat.add_assoc,hu]
    rw [hr.base_eq]
    simp [List.getD,hi]
  simp only [execOp,ho,Sem.run_bind,key,Result.andThen_ok,Sem.run_pure]
theorem LO.toBytes {s e:Nat} {u:TypeDesc} {b:ByteArray} (ho:o.op=.convert s t x) (hx:E x=some (.base (.string b))) (hs:P.underlying s=some u) (ht:P.underlying t=some (.slice e)) (he:P.underlying e=some (.int .u8)) :
 LO P o E H f [] [] (.isl (b.data.toList.map fun c=>.base (.int .u8 (c.toNat:Int))) b.size) H:=by
 refine ⟨fun _ _=>rfl,fun E' K hE hK X φ w ρ hR hst hf=>?_⟩
 rw [ovr_nil]
 have e1:=(hR x _ ((hE x (by simp [ho,Op.operands])).trans hx)).base_eq
 have hrun:=Lib.run_convert_string_bytes (P:=P) w s t e b hs ht he
 unfold OpW
 simp only [execOp,ho,e1,Sem.run_bind,hrun,Result.andThen_ok,Sem.run_pure]
 obtain ⟨h1,h2⟩:=hst.more (F:=(·=f)) (w':=Lib.bytesWorld w e b) rfl rfl rfl (by rw [Lib.bytesWorld_size];omega) (fun j hj=>Lib.bytesWorld_at_old w e b j hj)
 have hXb:¬ X w.heap.size∨True:=.inr trivial
 refine ⟨fun c=>X c∧c < w.heap.size,φ,⟨h1.os,h1.tape,h1.output,h1.size,h1.same,h1.bs,fun c _ hc=>hc.1,fun c hc hx=>.inl ⟨hx,hc⟩,h1.ph,h1.lv⟩,⟨fun r cs hr=>?_,h2.2,h2.gl.sub fun c hc=>hc.1⟩,?_⟩
 ·obtain h3|⟨c,o',h3,h4,h5⟩:=hst.1 r cs hr
  ·exact .inl h3
  ·have hlt:=h5.lt
   have hk:∀ v a,Rep X w φ v a→Rep (fun c=>X c∧c < w.heap.size) (Lib.bytesWorld w e b) φ v a:=fun v a h=>h.keep (by rw [Lib.bytesWorld_size];omega) (fun c hc _=>Lib.bytesWorld_at_old w e b c hc) (fun c hc=>bsz_same (Lib.bytesWorld_at_old w e b c hc)) (fun _ _ h=>h.1) (fun _ _ h=>h)
   exact .inr ⟨c,o',h3,⟨h4,hlt⟩,h5.keep (Lib.bytesWorld_at_old w e b c hlt) hk⟩
 ·refine .isl _ _ _ w.heap.size 0 (fun i=>.int .u8 (b.data.toList.getD i 0).toNat) (by rw [Lib.bytesWorld_size];omega) (fun h=>by have:=h.2;omega) (grownCap_ge w b.size 0 e) (fun i c hc=>?_) (fun i c hc=>?_) fun i c hc=>?_
  ·rw [List.getElem?_map] at hc
   obtain ⟨d,_,rfl⟩:=Option.map_eq_some_iff.1 hc
   rfl
  ·have hi:i < b.size:=by have:=(List.getElem?_eq_some_iff.1 hc).1;simpa using this
   rw [Nat.zero_add]
   exact Lib.bytesWorld_cell w e b i hi
  ·rw [List.getElem?_map] at hc
   obtain ⟨d,hd,rfl⟩:=Option.map_eq_some_iff.1 hc
   rw [List.getD_eq_getElem?_getD,hd]
   exact .base _
end
def XOK (P : Program) (g : FuncId) (hnd : Array Value → Sem Value) : Prop := ∃ fn : Func, P.funcs[g]? = some fn ∧ (fn.name == "runtime.NumGoroutine") = false ∧ fn.body.isNone = true ∧ Extern.findNext fn = none ∧ Extern.find fn = some hnd
section
variable {P:Program} {o:Oper} {E:Operand→Option AV} {H:Hp} {f:Nat} {g:FuncId} {xs:Array Operand} {ts:Array TypeId} {hnd:Array Value→Sem Value}
theorem run_ext {ρ:Operand→Value} {w:World} {v:Value} (hX:XOK P g hnd) (ho:o.op=.call { callee:=.value (.func g),args:=xs,argTypes:=ts }) (hρ:ρ (.func g)=.func (.func g) #[] #[]) (hr:(hnd (xs.map ρ)).run P w=.ok v w):(execOp ρ o).run P w=.ok (.value v) w:=by
 obtain ⟨fn,hf,hname,hb,hn,he⟩:=hX
 have hc:(callFunc g (xs.map ρ)).run P w=.ok (.value v) w:=by rw [run_callFunc_extern hf hname hb hn he,hr];rfl
 simp only [execOp,ho,resolve,hρ,Deferred.ofValue,Sem.run_bind,Sem.run_pure,Result.andThen_ok,invoke]
 simpa using hc
theorem LO.ext2 {x y:Operand} {u u' v:Value} (ho:o.op=.call { callee:=.value (.func g),args:=#[x,y],argTypes:=ts }) (hE:E (.func g)=some (.base (.func (.func g) #[] #[]))) (hx:E x=some (.base u)) (hy:E y=some (.base u')) (hX:XOK P g hnd) (hr:∀ w,(hnd #[u,u']).run P w=.ok v w):LO P o E H f [] [] (.base v) H :=
 .pure fun X φ w ρ hR=>by
  have e0:=(hR (.func g) (by simp [ho,Op.operands,Call.operands]) _ hE).base_eq
  have e1:=(hR x (by simp [ho,Op.operands,Call.operands]) _ hx).base_eq
  have e2:=(hR y (by simp [ho,Op.operands,Call.operands]) _ hy).base_eq
  exact ⟨v,run_ext hX ho e0 (by simp [e1,e2,hr]),.base _⟩
theorem LO.noEscape {x:Operand} {a:AV} (ho:o.op=.call { callee:=.value (.func g),args:=#[x],argTypes:=ts }) (hE:E (.func g)=some (.base (.func (.func g) #[] #[]))) (hx:E x=some a) (hX:XOK P g Extern.AbiNoEscape.same):LO P o E H f [] [] a H :=
 .pure fun X φ w ρ hR=>by
  have e0:=(hR (.func g) (by simp [ho,Op.operands,Call.operands]) _ hE).base_eq
  refine ⟨ρ x,run_ext hX ho e0 ?_,hR x (by simp [ho,Op.operands,Call.operands]) _ hx⟩
  simpa using Lib.run_noEscape (P:=P) w (ρ x)
end
def idxB (c:UInt8):List UInt8→Option Nat
 | []=>none
 | b::l=>match Nat.beq b.toNat c.toNat with
  | true=>some 0
  | false=>match idxB c l with
   | some i=>some (i + 1)
   | none=>none
def idxI (c:UInt8) (l:List UInt8):Int:=match idxB c l with
 | some i=>(i:Int)
 | none=>-1
theorem idxI_eq (c:UInt8) (l:List UInt8):Lib.indexByte l c=idxI c l:=by
 induction l with
 | nil=>rfl
 | cons b l ih =>
  unfold Lib.indexByte idxI idxB
  cases h:Nat.beq b.toNat c.toNat with
  | true =>
   have:=UInt8.toNat_inj.1 (Nat.eq_of_beq_eq_true h)
   subst this
   simp
  | false =>
   have hne:b≠c:=fun e=>Nat.ne_of_beq_eq_false h (by rw [e])
   have hb:(b == c)=false:=by simpa using hne
   rw [hb,ih]
   unfold idxI
   cases idxB c l with
   | none=>rfl
   | some i =>
    have:((i:Int) == -1)=false:=by simp
    simp [this]
def cntB (c:UInt8):List UInt8→Nat
 | []=>0
 | b::l=>match Nat.beq b.toNat c.toNat with
  | true=>cntB c l + 1
  | false=>cntB c l
theorem cntB_eq (c:UInt8) (l:List UInt8):Lib.countByte l c=cntB c l:=by
 unfold Lib.countByte
 induction l with
 | nil=>rfl
 | cons b l ih =>
  unfold cntB
  rw [List.count_cons,ih]
  cases h:Nat.beq b.toNat c.toNat with
  | true =>
   have:=UInt8.toNat_inj.1 (Nat.eq_of_beq_eq_true h)
   subst this
   simp
  | false =>
   have hne:b≠c:=fun e=>Nat.ne_of_beq_eq_false h (by rw [e])
   simp [hne]
section
variable {P:Program} (o:Oper) (E:Operand→Option AV) (L:HL) (N:Nat)
def funE (E:Operand→Option AV) (g:FuncId):Bool:=match E (.func g) with
 | some (.base (.func (.func g') ⟨[]⟩ ⟨[]⟩))=>Nat.beq g' g
 | _=>false
theorem funE_ok {g:FuncId} (h:funE E g=true):E (.func g)=some (.base (.func (.func g) #[] #[])):=by
 unfold funE at h
 split at h
 ·rename_i g' he
  have:=Nat.eq_of_beq_eq_true h
  subst this
  exact he
 ·cases h
def eExt (gi gc ge:FuncId) (g:FuncId) (xs:List Operand):Option Res:=match funE E g with
 | true=>match xs with
  | [x]=>match Nat.beq g ge with
   | true=>match E x with
    | some a=>some ⟨[],[],a,L⟩
    | none=>none
   | false=>none
  | [x,y]=>match E x,E y with
   | some (.base (.string ⟨⟨l⟩⟩)),some (.base (.int .u8 c))=>match Nat.beq g gi with
    | true=>some ⟨[],[],.base (.int .i64 (idxI c.toNat.toUInt8 l)),L⟩
    | false=>match Nat.beq g gc with
     | true=>some ⟨[],[],.base (.int .i64 ((cntB c.toNat.toUInt8 l:Nat):Int)),L⟩
     | false=>none
   | _,_=>none
  | _=>none
 | false=>none
theorem eExt_ok {gi gc ge g:FuncId} (hi:XOK P gi Extern.BytealgIndexByte.indexByte) (hc:XOK P gc Extern.BytealgCount.count) (he:XOK P ge Extern.AbiNoEscape.same) {xs:Array Operand} {ts:Array TypeId} {R:Res} (ho:o.op=.call { callee:=.value (.func g),args:=xs,argTypes:=ts }) (h:eExt E L gi gc ge g xs.toList=some R):LO P o E (lkH L) N R.rd R.wr R.v (lkH R.L):=by
 obtain ⟨xs⟩:=xs
 unfold eExt at h
 split at h<;>first|(cases h;done)|skip
 rename_i hE
 have hE:=funE_ok E hE
 split at h<;>first|(cases h;done)|skip
 ·rename_i x _
  split at h<;>first|(cases h;done)|skip
  rename_i hb
  have:=Nat.eq_of_beq_eq_true hb
  subst this
  split at h<;>first|(cases h;done)|skip
  rename_i a hx
  injection h with h;subst h
  simp only at *
  subst_vars
  exact .noEscape ho hE hx he
 ·rename_i x y _
  split at h<;>first|(cases h;done)|skip
  rename_i l c hx hy
  simp only at *
  subst_vars
  split at h
  ·rename_i hb
   have:=Nat.eq_of_beq_eq_true hb
   subst this
   injection h with h;subst h
   exact .ext2 ho hE hx hy hi fun w=>by rw [Lib.run_indexByteString,idxI_eq]
  ·split at h<;>first|(cases h;done)|skip
   rename_i hb
   have:=Nat.eq_of_beq_eq_true hb
   subst this
   injection h with h;subst h
   exact .ext2 ho hE hx hy hc fun w=>by rw [Lib.run_countString,cntB_eq]
end
section
variable {P:Program} {o:Oper} {E:Operand→Option AV} {H:Hp} {f:Nat} {t:TypeId} {x:Operand} {size bytes:Nat} {zero:List AV} {e sz by':Nat} {l':Lay} {z':List AV}
theorem LO.sliceAr {lo hi:Option Operand} {r off len m n:Nat} {cs:List AV} (ho:o.op=.slice t x lo hi none) (hx:E x=some (.own r off)) (hH:H r=some cs) (hfit:off + len * sz≤cs.length) (h0:0 < cs.length) (hl:Bnd E lo 0 m) (hh:Bnd E hi len n) (hmn:m≤n) (hn:n≤len) (ht:TyOK P t (.arr len e) size bytes zero) (he:TyOK P e l' sz by' z') :
 LO P o E H f [r] [] (.osl r (off + m * sz) (n - m) sz) H :=
 .read r fun X φ w ρ K hR hK hst=>by
  obtain ⟨b,o',hp,e1,hb0⟩:=(hR x (by simp [ho,Op.operands]) _ hx).own_inv
  obtain ⟨c,el,hX,hcell,hcs⟩:=hst.cells (hK.trans hH) hp hb0
  have hl':=bnd_val (ρ:=ρ) hl fun y hy a ha=>hR y (by simp [ho,Op.operands,hy]) a ha
  have hh':=bnd_val (ρ:=ρ) hh fun y hy a ha=>hR y (by simp [ho,Op.operands,hy]) a ha
  have h1:(0:Int)≤(n:Int)∧(n:Int)≤(len:Int):=by omega
  have h2:(0:Int)≤(m:Int)∧(m:Int)≤(n:Int):=by omega
  have hb:(Instr.sliceBounds false len len (lo.map ρ) (hi.map ρ) none).run P w=.ok (m,n,len) w:=by
   rcases hl' with ⟨rfl,rfl⟩|⟨y,k,rfl,ey⟩<;>rcases hh' with ⟨rfl,rfl⟩|⟨y',k',rfl,ey'⟩
   ·simp [Instr.sliceBounds]
   ·simp [Instr.sliceBounds,Instr.sliceBound,asIntOf,ey',hn]
   ·simp [Instr.sliceBounds,Instr.sliceBound,asIntOf,ey,hmn]
   ·simp [Instr.sliceBounds,Instr.sliceBound,asIntOf,ey,ey',hmn,hn]
  have hrun:(Instr.sliceAt t (ρ x) (lo.map ρ) (hi.map ρ) (none:Option Value)).run P w=.ok (.slice (some (if len=m then ⟨b,o' + off,none⟩ else Addr.add ⟨b,o' + off,none⟩ (m * sz))) (n - m) (len - m)) w:=by
   simp only [e1,Instr.sliceAt,Sem.run_bind,run_underlying (lay_ar ht),Result.andThen_ok,Instr.sureAddr,Sem.run_pure,hb,he.sizeOf]
  refine ⟨_,by simp only [execOp,ho,Sem.run_bind,Option.map_none,hrun,Result.andThen_ok,Sem.run_pure];try rfl,?_⟩
  by_cases hcm:len=m
  ·have e3:n - m=0:=by omega
   have e4:len - m=0:=by omega
   rw [e3,e4]
   exact .osl0 _ _ _ _
  ·rw [if_neg hcm,Addr.add_lit,Nat.add_assoc]
   refine .osl r _ _ sz b o' _ hp (by omega) ?_
   have e5:m * sz + (len - m) * sz=len * sz:=by rw [← Nat.add_mul];congr 1;omega
   have hlast:o' + off + len * sz≤c.size:=by
    obtain ⟨_,u,hu,_⟩:=hcs (cs.length - 1) cs[cs.length - 1] (List.getElem?_eq_getElem (by omega))
    have:=(Array.getElem?_eq_some_iff.1 hu).1
    omega
   rw [bsz_of hcell]
   omega
theorem LO.toArrO {r off n len:Nat} (ho:o.op=.sliceToArrayPointer t x) (hx:E x=some (.osl r off len sz)) (ht:TyOK P t (.arr n e) size bytes zero) (hn:0 < n) (hl:n≤len):LO P o E H f [] [] (.own r off) H :=
 .pure fun X φ w ρ hR=>by
  obtain ⟨A,cap,e1,hc,hcase⟩:=(hR x (by simp [ho,Op.operands]) _ hx).osl_inv
  rcases hcase with ⟨h1,_⟩|⟨b,o',hp,rfl,hbz⟩
  ·omega
  ·have hlt:¬ len < n:=by omega
   exact ⟨_,by simp only [execOp,ho,e1,Instr.arrayAt,Sem.run_bind,run_underlying (lay_ar ht),Result.andThen_ok,hlt,if_false,Sem.run_pure],.own r off b o' hp (by omega)⟩
end
def untype:AV→AV
 | .oslt r off len sz _=>.osl r off len sz
 | .oslc r off len sz _=>.osl r off len sz
 | .ownt r off _=>.own r off
 | a=>a
def unE (E:Operand→Option AV):Operand→Option AV:=fun x=>match E x with
 | some a=>some (untype a)
 | none=>none
theorem Rep.untype {X:Nat→Prop} {w:World} {φ:Em} {v:Value} {a:AV} (h:Rep X w φ v a):Rep X w φ v (untype a):=by
 cases h with
 | oslt r off len sz e b o cap hp hc hs he _=>exact .osl r off len sz b o cap hp hc hs
 | oslt0 A r off sz e=>exact .osl0 A r off sz
 | oslc r off len sz cap b o hp hc hs=>exact .osl r off len sz b o cap hp hc hs
 | oslc0 A r off sz=>exact .osl0 A r off sz
 | ownt r off e b o hp h0 he _=>exact .own r off b o hp h0
 | base v=>exact .base v
 | nils=>exact .nils
 | agg vs cs hl h1 h=>exact .agg vs cs hl h1 h
 | tup vs cs hl h=>exact .tup vs cs hl h
 | mref r b o h=>exact .mref r b o h
 | own r off b o h h0=>exact .own r off b o h h0
 | osl r off len sz b o cap h hc hs=>exact .osl r off len sz b o cap h hc hs
 | osl0 A r off sz=>exact .osl0 A r off sz
 | imm cs off b o us hb hx h1 hc h=>exact .imm cs off b o us hb hx h1 hc h
 | isl0 A cap=>exact .isl0 A cap
 | isl cs len cap b o us hb hx hcap h1 hc h=>exact .isl cs len cap b o us hb hx hcap h1 hc h
 | clo g vs cs hl h=>exact .clo g vs cs hl h
 | cloo g r off b o h h0=>exact .cloo g r off b o h h0
 | clom g r bm b o hb hx hc h=>exact .clom g r bm b o hb hx hc h
 | tyOf r t n b h h0=>exact .tyOf r t n b h h0
 | app f r off n n2 sz bf of cap b o cs cs' us hf hcap hs hr h1 hc h=>exact .app f r off n n2 sz bf of cap b o cs cs' us hf hcap hs hr h1 hc h
theorem LO.weaken {P:Program} {o:Oper} {E:Operand→Option AV} {H H':Hp} {f:Nat} {rd wr:List Nat} {v:AV} (h:LO P o (unE E) H f rd wr v H'):LO P o E H f rd wr v H':=by
 refine ⟨h.1,fun E' K hE hK X φ w ρ hR hst hf=>?_⟩
 refine h.2 (unE E') K (fun x hx=>by unfold unE;rw [hE x hx]) hK X φ w ρ (fun x a ha=>?_) hst hf
 unfold unE at ha
 split at ha
 ·rename_i b hb
  injection ha with ha
  subst ha
  exact (hR x b hb).untype
 ·cases ha
end Go.Proofs.YtbfnfgpjgdbmeaaGreatDoor
namespace Go.Proofs.YtbfnfgpjgdbmeaaGreatDoor
open Go.RowKit Go.Lib
section
variable {P:Program} {o:Oper} {E:Operand→Option AV} {H:Hp} {f:Nat} {t tn:TypeId} {size bytes sn bn:Nat} {zero zn:List AV} {x y:Operand} {e sz by':Nat} {l':Lay} {z':List AV}
end
end Go.Proofs.YtbfnfgpjgdbmeaaGreatDoor
namespace Go.Proofs.YtbfnfgpjgdbmeaaGreatDoor
open Go.RowKit
section
variable {P:Program} {o:Oper} {E:Operand→Option AV} {H:Hp} {f:Nat} {g:FuncId} {xs:Array Operand} {ts:Array TypeId} {args cl:List AV} {fr:List Nat} {v:AV} {z:Operand}
theorem LO.callC (ho:o.op=.call { callee:=.value z,args:=xs,argTypes:=ts }) (hE:E z=some (.clo g cl)) (hp:cl.all (fun c=>c.pure1)=true) (h:AFn P g 0 (args++cl) mt v mt) (hF:FnOK P g)
 (hargs:Args E H fr none xs.toList args) (hv:v.pure=true):LO P o E H f [] fr v (frK H fr):=by
 refine ⟨fun r hr=>if_neg hr,fun E' K hE' hK X φ w ρ hR hst hff=>?_⟩
 have hKf:∀ r,r∈fr→K r=H r:=fun r hr=>hK r (.inr hr)
 rw [ovr_frK hKf]
 obtain ⟨fn,hf,hname,hb⟩:=hF
 have hops:o.op.operands=#[z]++xs:=by rw [ho];rfl
 obtain ⟨vs,hρ,hvl,hvs⟩:=(Clo.clo cl hp).rep (hR z _ ((hE' _ (by rw [hops];simp)).trans hE))
 unfold OpW
 rw [run_callClo ho hρ hf hname hb]
 obtain ⟨g1,g2⟩:=hargs.rep (K:=K) (X:=X) (φ:=φ) (φ':=mt) (w:=w) (ρ:=ρ) hKf hst (fun x hx a ha=>hR x a ((hE' x (by rw [hops];simp;exact .inr (by simpa using hx))).trans ha)) (fun q h=>by cases h)
 have g1':(xs.map ρ).size=args.length:=by simpa using g1
 refine (h (frX X K φ fr) mt w (xs.map ρ++vs) (by simp [hvl];simpa using g1) (fun i x a hx ha=>?_) ⟨fun r cs h=>(by cases h),fun r r' cs cs' b o o' h=>(by cases h),hst.frz.gl⟩ (fun _ _=>rfl)).mono ?_
 ·rw [Array.getElem?_append] at hx
  rw [List.getElem?_append] at ha
  by_cases hi:i < args.length
  ·rw [if_pos (by omega)] at hx
   rw [if_pos hi] at ha
   exact g2 i x a (by simpa using hx) ha
  ·rw [if_neg (by omega),g1'] at hx
   rw [if_neg hi] at ha
   exact ((hvs _ x a hx ha).keep (X':=frX X K φ fr) (φ':=φ) (Nat.le_refl _) (fun _ _ _=>rfl) (fun _ _=>rfl) (fun b _ hx=>hx.1) (fun _ _ h=>h)).pure1 (List.all_eq_true.1 hp a (List.mem_of_getElem? ha))
 rintro e w' ⟨x,X',φ',rfl,h1,h2,h3⟩
 have hst1:=hst.frz (fr:=fr)
 obtain ⟨k1,k2,_⟩:=nxt_pure hst1 h1 (fun _ _ _ _ _ _ _ _ _ h=>by cases h) (fun _ _ _ _ h=>by cases h)
 refine ⟨x,rfl,X',φ,?_,k2,h3.pure hv⟩
 have hn2:Nxt (frK K fr) (·=f) (frX X K φ fr) φ w (frK K fr) X' φ w' :=
  ⟨h1.os,h1.tape,h1.output,h1.size,fun b hb hn=>h1.same b hb (fun _ _ _ h=>by cases h),h1.bs,h1.xs,fun b hb hx=>(h1.xk b hb hx).imp id fun ⟨_,_,_,h,_⟩=>(by cases h),fun _ _=>rfl,fun r cs b o h1 h2=>.inr ⟨r,cs,o,h1,h2⟩⟩
 exact Nxt.frz.trans hn2 fun _ h=>h
end
end Go.Proofs.YtbfnfgpjgdbmeaaGreatDoor
namespace Go.Proofs.YtbfnfgpjgdbmeaaGreatDoor
open Go.RowKit Go.Lib
section
variable {P:Program} {o:Oper} {E:Operand→Option AV} {H:Hp} {f:Nat} {x y:Operand} {e sz by' size bytes:Nat} {l':Lay} {z' zero:List AV}
end
end Go.Proofs.YtbfnfgpjgdbmeaaGreatDoor
namespace Go.Proofs.YtbfnfgpjgdbmeaaGreatDoor
open Go.RowKit
section
variable {P:Program} {o:Oper} {E:Operand→Option AV} {H:Hp} {f:Nat} {t:TypeId} {size bytes:Nat} {zero:List AV} {x:Operand} {e sz:Nat}
end
end Go.Proofs.YtbfnfgpjgdbmeaaGreatDoor
