/-
  Calls that are handed any blocks, to be written, and hand back any new ones. Operations carried out: memory as a list, one operation at a time. Operations carried out: numbers, strings, slices, what is made.
-/
import Derived.Test.YtbfnfgpjgdbmeaaGreatDoorE1
import Derived.Test.YtbfnfgpjgdbmeaaGreatDoorMab
namespace Go.Proofs.YtbfnfgpjgdbmeaaGreatDoor
open Go.RowKit
def AV.nm1 (p:Nat→Bool):AV→Bool
 | .own r _|.osl r _ _ _|.mref r|.cloo _ r _|.clom _ r|.tyOf r _ _|.oslt r _ _ _ _|.oslc r _ _ _ _|.ownt r _ _=>p r
 | .app _ _ _ _ _ _ _|.agg _|.tup _=>false
 | _=>true
def AV.nm2 (p:Nat→Bool):AV→Bool
 | .agg cs=>cs.all (AV.nm1 p)
 | a=>a.nm1 p
def AV.nm3 (p:Nat→Bool):AV→Bool
 | .tup vs=>vs.all (AV.nm2 p)
 | a=>a.nm2 p
def ren3 (σ:Nat→Nat):AV→AV
 | .tup vs=>.tup (vs.map (ren2 σ))
 | a=>ren2 σ a
section
variable {X:Nat→Prop} {w:World} {φ φ2:Em} {v:Value} {a:AV} {p:Nat→Bool} {σ:Nat→Nat}
theorem Rep.ren1 (hφ:∀ r,p r=true→φ2 (σ r)=φ r) (h1:a.one=true) (hn:a.nm1 p=true) (h:Rep X w φ v a):Rep X w φ2 v (ren1 σ a):=by
 cases a with
 | own r off=>obtain ⟨b,o,hp,rfl,hbs0⟩:=h.own_inv;exact .own _ off b o ((hφ r hn).trans hp) hbs0
 | oslt r off len sz e=>cases h with
  | oslt _ _ _ _ _ b o cap hp hc hs he hz0=>exact .oslt _ off len sz e b o cap ((hφ r hn).trans hp) hc hs he hz0
  | oslt0 A=>exact .oslt0 A _ off sz e
 | oslc r off len sz cap=>cases h with
  | oslc _ _ _ _ _ b o hp hc hs=>exact .oslc _ off len sz cap b o ((hφ r hn).trans hp) hc hs
  | oslc0 A=>exact .oslc0 A _ off sz
 | ownt r off e=>cases h with|ownt _ _ _ b o hp h0 he hz0=>exact .ownt _ off e b o ((hφ r hn).trans hp) h0 he hz0
 | tyOf r t n=>cases h with|tyOf _ _ _ b hp h0=>exact .tyOf _ t n b ((hφ r hn).trans hp) h0
 | cloo g r off=>cases h with|cloo _ _ _ b o hp h0=>exact .cloo g _ off b o ((hφ r hn).trans hp) h0
 | clom g r=>cases h with|clom _ _ bm b o hb hx hc hp=>exact .clom g _ bm b o hb hx hc ((hφ r hn).trans hp)
 | osl r off len sz =>
  obtain ⟨A,cap,rfl,hc,⟨rfl,rfl⟩|⟨b,o,hp,rfl,hs⟩⟩:=h.osl_inv
  ·exact .osl0 _ _ _ _
  ·exact .osl _ off len sz b o cap ((hφ r hn).trans hp) hc hs
 | mref r=>cases h with|mref _ b o hp=>exact .mref _ b o ((hφ r hn).trans hp)
 | app f r off n n2 sz cs=>cases hn
 | mp kd m=>cases h1
 | mpk k ks=>cases h1
 | agg cs=>cases h1
 | tup vs=>cases h1
 | base u=>exact h.pure1 rfl
 | nils=>exact h.pure1 rfl
 | imm cs off=>exact h.pure1 rfl
 | isl cs len=>exact h.pure1 rfl
 | clo g cs=>exact h.pure1 rfl
theorem rep_one_or (ht:∀ cs,a≠.agg cs) (ht2:∀ vs,a≠.tup vs) (h:Rep X w φ v a):a.one=true∨∃ u,a=.base u:=by
 cases h<;>first|exact .inl rfl|exact .inr ⟨_,rfl⟩|exact absurd rfl (ht _)|exact absurd rfl (ht2 _)
theorem Rep.ren2 (hφ:∀ r,p r=true→φ2 (σ r)=φ r) (ht:∀ vs,a≠.tup vs) (hn:a.nm2 p=true) (h:Rep X w φ v a):Rep X w φ2 v (ren2 σ a):=by
 by_cases ha:∃ cs,a=.agg cs
 ·obtain ⟨cs,rfl⟩:=ha
  cases h with
  | agg vs _ hl h1 hh =>
   refine .agg vs _ (by simpa using hl) (fun i c hc=>?_) fun i v c hv hc=>?_
   ·rw [List.getElem?_map] at hc
    obtain ⟨d,hd,rfl⟩:=Option.map_eq_some_iff.1 hc
    rw [ren1_one]
    exact h1 i d hd
   ·rw [List.getElem?_map] at hc
    obtain ⟨d,hd,rfl⟩:=Option.map_eq_some_iff.1 hc
    exact (hh i v d hv hd).ren1 hφ (h1 i d hd) (List.all_eq_true.1 hn d (List.mem_of_getElem? hd))
 ·have ht':∀ cs,a≠.agg cs:=fun cs e=>ha ⟨cs,e⟩
  have e1:Go.Proofs.YtbfnfgpjgdbmeaaGreatDoor.ren2 σ a=Go.Proofs.YtbfnfgpjgdbmeaaGreatDoor.ren1 σ a:=by cases a<;>first|rfl|exact absurd rfl (ht' _)
  have e2:a.nm2 p=a.nm1 p:=by cases a<;>first|rfl|exact absurd rfl (ht' _)
  rw [e1]
  rw [e2] at hn
  rcases rep_one_or ht' ht h with h1|⟨u,rfl⟩
  ·exact h.ren1 hφ h1 hn
  ·exact h.pure1 rfl
theorem Rep.ren3 (hφ:∀ r,p r=true→φ2 (σ r)=φ r) (hn:a.nm3 p=true) (h:Rep X w φ v a):Rep X w φ2 v (ren3 σ a):=by
 by_cases ha:∃ vs,a=.tup vs
 ·obtain ⟨cs,rfl⟩:=ha
  cases h with
  | tup vs _ hl hh =>
   refine .tup vs _ (by simpa using hl) fun i v c hv hc=>?_
   rw [List.getElem?_map] at hc
   obtain ⟨d,hd,rfl⟩:=Option.map_eq_some_iff.1 hc
   have hnd:=List.all_eq_true.1 hn d (List.mem_of_getElem? hd)
   exact (hh i v d hv hd).ren2 hφ (fun vs e=>by subst e;cases hnd) hnd
 ·have ht:∀ vs,a≠.tup vs:=fun vs e=>ha ⟨vs,e⟩
  have e1:Go.Proofs.YtbfnfgpjgdbmeaaGreatDoor.ren3 σ a=Go.Proofs.YtbfnfgpjgdbmeaaGreatDoor.ren2 σ a:=by cases a<;>first|rfl|exact absurd rfl (ht _)
  have e2:a.nm3 p=a.nm2 p:=by cases a<;>first|rfl|exact absurd rfl (ht _)
  rw [e1]
  rw [e2] at hn
  exact h.ren2 hφ ht hn
theorem Blk.ren {b o:Nat} {cs:List AV} (hφ:∀ r,p r=true→φ2 (σ r)=φ r) (hn:cs.all (AV.nm1 p)=true) (h:Blk X φ w b o cs):Blk X φ2 w b o (cs.map (Go.Proofs.YtbfnfgpjgdbmeaaGreatDoor.ren1 σ)):=by
 cases h with
 | cells c e hh h =>
  refine .cells c e hh fun j a hj=>?_
  rw [List.getElem?_map] at hj
  obtain ⟨d,hd,rfl⟩:=Option.map_eq_some_iff.1 hj
  obtain ⟨h1,u,h2,h3⟩:=h j d hd
  exact ⟨by rw [ren1_one];exact h1,u,h2,h3.ren1 hφ h1 (List.all_eq_true.1 hn d (List.mem_of_getElem? hd))⟩
 | map es cl kd m hc hh h=>subst hc;exact .map es cl kd m rfl hh h
 | mapl es cl kd ks vs hc hh h=>subst hc;exact .mapl es cl kd ks vs rfl hh h
 | mapk es cl k ks hc hh h=>subst hc;exact .mapk es cl k ks rfl hh h
 | mapa es cl kd ks as_ hc hh h =>
  subst hc
  refine .mapa es cl kd ks as_ ?_ hh (h.keep fun v a ha hr=>hr.pure2 (AV.pureA_2 (List.all_eq_true.1 h.pu a ha)))
  show _::_::as_.map _=_
  have:as_.map (Go.Proofs.YtbfnfgpjgdbmeaaGreatDoor.ren1 σ)=as_:=by
   refine (List.map_congr_left fun a ha=>?_).trans (List.map_id as_)
   have:=List.all_eq_true.1 h.pu a ha
   cases a<;>first|(cases this;done)|rfl
  rw [this];rfl
end
def idx:List Nat→Nat→Nat
 | [],_=>0
 | a::l,r=>match Nat.beq a r with
  | true=>0
  | false=>idx l r + 1
def memN:List Nat→Nat→Bool
 | [],_=>false
 | a::l,r=>match Nat.beq a r with
  | true=>true
  | false=>memN l r
theorem memN_iff {l:List Nat} {r:Nat}:memN l r=true↔r∈l:=by
 induction l with
 | nil=>simp [memN]
 | cons a l ih =>
  unfold memN
  cases hb:Nat.beq a r with
  | true=>have:=Nat.eq_of_beq_eq_true hb;simp [this]
  | false=>have:=Nat.ne_of_beq_eq_false hb;simp [ih,Ne.symm this]
theorem idx_get {l:List Nat} {r:Nat} (h:memN l r=true):l[idx l r]?=some r:=by
 induction l with
 | nil=>cases h
 | cons a l ih =>
  unfold memN at h
  unfold idx
  cases hb:Nat.beq a r with
  | true=>have:=Nat.eq_of_beq_eq_true hb;simp [this]
  | false=>rw [hb] at h;simpa using ih h
theorem idx_of {l:List Nat} {r i:Nat} (hd:l.Nodup) (h:l[i]?=some r):idx l r=i:=by
 have h1:=idx_get (memN_iff.2 (List.mem_of_getElem? h))
 have hi:i < l.length:=(List.getElem?_eq_some_iff.1 h).1
 have:=(List.getElem?_inj hi hd).1 (h.trans h1.symm)
 exact this.symm
def sgc (R S:List Nat) (N:Nat):Nat→Nat:=fun k=>match Nat.blt k R.length with
 | true=>R.getD k 0
 | false=>N + idx S k
def pgc (R S:List Nat):Nat→Bool:=fun k=>Nat.blt k R.length || memN S k
section
variable {P:Program} {o:Oper} {E:Operand→Option AV} {H:Hp} {v:AV} {g:FuncId} {xs:Array Operand} {ts:Array TypeId} {z:Operand} {avs cl:List AV} {N c:Nat} {R S:List Nat} {bl:List (List AV)} {Hc:Hp}
inductive Clo (g:FuncId):AV→List AV→Prop
 | fn:Clo g (.base (.func (.func g) #[] #[])) []
 | clo (cs:List AV) (hp:cs.all (fun c=>c.pure1)=true):Clo g (.clo g cs) cs
 | cloo (r off:Nat):Clo g (.cloo g r off) [.own r off]
theorem Clo.rep {X:Nat→Prop} {w:World} {φ:Em} {u:Value} {a:AV} (h:Clo g a cl) (hr:Rep X w φ u a):∃ vs:Array Value,u=.func (.func g) #[] vs∧vs.size=cl.length∧∀ (i:Nat) x b,vs[i]?=some x→cl[i]?=some b→Rep X w φ x b:=by
 cases h with
 | fn=>exact ⟨#[],hr.base_eq,rfl,fun i x b hx=>by simp at hx⟩
 | clo cs hp=>cases hr with|clo _ vs _ hl h=>exact ⟨vs,rfl,hl,fun i x b h1 h2=>(h i x b h1 h2).pure1 (List.all_eq_true.1 hp b (List.mem_of_getElem? h2))⟩
 | cloo r off=>cases hr with|cloo _ _ _ b o h h0=>exact ⟨_,rfl,rfl,fun i x c h1 h2=>by
  match i with
  | 0=>simp at h1 h2;subst h1 h2;exact .own r off b o h h0
  | i + 1=>simp at h2⟩
def hpc (R S:List Nat) (N:Nat) (Hc H:Hp):Hp:=fun r=>match memN R r with
 | true=>(Hc (idx R r)).map (·.map (Go.Proofs.YtbfnfgpjgdbmeaaGreatDoor.ren1 (sgc R S N)))
 | false=>match Nat.ble N r && Nat.blt r (N + S.length) with
  | true=>(Hc (S.getD (r - N) 0)).map (·.map (Go.Proofs.YtbfnfgpjgdbmeaaGreatDoor.ren1 (sgc R S N)))
  | false=>H r
theorem LOM.call (ho:o.op=.call { callee:=.value z,args:=xs,argTypes:=ts }) {fv:AV} (hz:E z=some fv) (hfv:Clo g fv cl) (hF:FnOK P g)
 (hx:xs.toList.map E=avs.map some) (hn:avs.all (AV.nm2 (memN R))=true) (hcl:cl.all (AV.nm2 (memN R))=true) (hR:R.all (fun r=>Nat.blt r N || Nat.ble (N + c) r)=true) (hRd:R.Nodup)
 (hH:R.map H=bl.map some) (hbn:bl.all (·.all (AV.nm1 (memN R)))=true)
 (h:AFn P g R.length (avs.map (ren2 (idx R))++cl.map (ren2 (idx R))) (fun k=>(bl[k]?).map (·.map (Go.Proofs.YtbfnfgpjgdbmeaaGreatDoor.ren1 (idx R)))) v Hc)
 (hSd:S.Nodup) (hS:S.all (Nat.ble R.length)=true) (hSc:S.length≤c) (hv:v.nm3 (pgc R S)=true) (hHc:∀ k cs,Hc k=some cs→pgc R S k=true∧cs.all (AV.nm1 (pgc R S))=true) :
 LOM P o E H N c [] (R++(List.range S.length).map (N + ·)) (ren3 (sgc R S N) v) (hpc R S N Hc H):=by
 have hrange:∀ r,(Nat.ble N r && Nat.blt r (N + S.length))=true↔(N≤r∧r < N + S.length):=fun r=>by
  rw [Bool.and_eq_true,Nat.ble_eq,Nat.blt_eq]
 have hRN:∀ r,memN R r=true→r < N∨N + c≤r:=fun r hr=>by
  have:=List.all_eq_true.1 hR r (memN_iff.1 hr)
  rw [Bool.or_eq_true,Nat.blt_eq,Nat.ble_eq] at this
  exact this
 refine ⟨fun r hr=>?_,fun E' K hE hK X φ w ρ hRep hst hff=>?_⟩
 ·simp only [List.mem_append,List.mem_map,List.mem_range,not_or,not_exists,not_and] at hr
  unfold hpc
  have h1:memN R r=false:=by
   cases hm:memN R r with
   | false=>rfl
   | true=>exact absurd (memN_iff.1 hm) hr.1
  have h2:(Nat.ble N r && Nat.blt r (N + S.length))=false:=by
   cases hm:(Nat.ble N r && Nat.blt r (N + S.length)) with
   | false=>rfl
   | true =>
    have h3:=(hrange r).1 hm
    exact absurd (by omega) (hr.2 (r - N) (by omega))
  rw [h1,h2]
 obtain ⟨fn,hf,hname,hb⟩:=hF
 have hops:o.op.operands=#[z]++xs:=by rw [ho];rfl
 obtain ⟨vs,hρ,hvl,hvs⟩:=hfv.rep (hRep z _ ((hE z (by rw [hops];simp)).trans hz))
 have hlen:R.length=bl.length:=by have:=congrArg List.length hH;simpa using this
 have hKR:∀ (k r:Nat) cs,R[k]?=some r→bl[k]?=some cs→K r=some cs:=fun k r cs h1 h2=>by
  have h3:(R.map H)[k]?=(bl.map some)[k]?:=by rw [hH]
  rw [List.getElem?_map,List.getElem?_map,h1,h2] at h3
  simp only [Option.map_some,Option.some.injEq] at h3
  rw [hK r (.inr (List.mem_append.2 (.inl (List.mem_of_getElem? h1))))]
  exact h3
 let φc:Em:=fun k=>match R[k]? with
  | some r=>φ r
  | none=>none
 have hφc:∀ (k r:Nat),R[k]?=some r→φc k=φ r:=fun k r h=>by show (match R[k]? with|some r=>φ r|none=>none)=_;rw [h]
 have hφn:∀ k,R.length≤k→φc k=none:=fun k h=>by show (match R[k]? with|some r=>φ r|none=>none)=_;rw [List.getElem?_eq_none h]
 have hφi:∀ r,memN R r=true→φc (idx R r)=φ r:=fun r hr=>hφc _ _ (idx_get hr)
 let H1:Hp:=fun k=>(bl[k]?).map (·.map (Go.Proofs.YtbfnfgpjgdbmeaaGreatDoor.ren1 (idx R)))
 have hH1:∀ k cs',H1 k=some cs'→∃ r cs,R[k]?=some r∧bl[k]?=some cs∧K r=some cs∧cs'=cs.map (Go.Proofs.YtbfnfgpjgdbmeaaGreatDoor.ren1 (idx R)):=fun k cs' hk=>by
  obtain ⟨cs,h1,rfl⟩:=Option.map_eq_some_iff.1 hk
  have hk2:k < R.length:=by rw [hlen];exact (List.getElem?_eq_some_iff.1 h1).1
  exact ⟨R[k],cs,List.getElem?_eq_getElem hk2,h1,hKR k _ cs (List.getElem?_eq_getElem hk2) h1,rfl⟩
 have hst1:St X φc H1 w:=by
  refine ⟨fun k cs' hk=>?_,fun k k' c1 c2 b o1 o2 i1 i2 i3 i4=>?_,hst.gl⟩
  ·obtain ⟨r,cs,h1,h2,h3,rfl⟩:=hH1 k cs' hk
   rw [hφc k r h1]
   obtain ⟨rfl,j2⟩|⟨b,o',j1,j2,j3⟩:=hst.1 r cs h3
   ·exact .inl ⟨rfl,j2⟩
   ·exact .inr ⟨b,o',j1,j2,j3.ren hφi (List.all_eq_true.1 hbn cs (List.mem_of_getElem? h2))⟩
  ·obtain ⟨r1,d1,a1,_,a3,_⟩:=hH1 k c1 i1
   obtain ⟨r2,d2,b1,_,b3,_⟩:=hH1 k' c2 i2
   rw [hφc k r1 a1] at i3
   rw [hφc k' r2 b1] at i4
   have e:=hst.2 r1 r2 d1 d2 b o1 o2 a3 b3 i3 i4
   subst e
   rw [← idx_of hRd a1,← idx_of hRd b1]
 unfold OpW
 rw [run_callClo ho hρ hf hname hb]
 have hxl:xs.size=avs.length:=by have:=congrArg List.length hx;simpa using this
 have hxa:∀ (i:Nat) x a,xs[i]?=some x→avs[i]?=some a→E' x=some a:=fun i x a h1 h2=>by
  have h3:(xs.toList.map E)[i]?=(avs.map some)[i]?:=by rw [hx]
  rw [List.getElem?_map,List.getElem?_map,h2] at h3
  have h4:xs.toList[i]?=some x:=by simpa using h1
  rw [h4] at h3
  simp only [Option.map_some,Option.some.injEq] at h3
  rw [hE x (by rw [hops];simp;exact .inr (Array.mem_of_getElem? h1))]
  exact h3
 refine (h X φc w (xs.map ρ++vs) (by simp [hxl,hvl]) (fun i x a hx' ha=>?_) hst1 hφn).mono ?_
 ·rw [Array.getElem?_append] at hx'
  rw [List.getElem?_append] at ha
  simp only [List.length_map,Array.size_map] at hx' ha
  by_cases hi:i < avs.length
  ·rw [if_pos (by omega)] at hx'
   rw [if_pos hi,List.getElem?_map] at ha
   obtain ⟨a0,ha0,rfl⟩:=Option.map_eq_some_iff.1 ha
   rw [Array.getElem?_map] at hx'
   obtain ⟨y,hy,rfl⟩:=Option.map_eq_some_iff.1 hx'
   have hnm:=List.all_eq_true.1 hn a0 (List.mem_of_getElem? ha0)
   exact (hRep y a0 (hxa i y a0 hy ha0)).ren2 hφi (fun vs e=>by subst e;cases hnm) hnm
  ·rw [if_neg (by omega),hxl] at hx'
   rw [if_neg hi,List.getElem?_map] at ha
   obtain ⟨a0,ha0,rfl⟩:=Option.map_eq_some_iff.1 ha
   have hnm:=List.all_eq_true.1 hcl a0 (List.mem_of_getElem? ha0)
   exact (hvs _ x a0 hx' ha0).ren2 hφi (fun vs e=>by subst e;cases hnm) hnm
 rintro e w' ⟨x,X',φ',rfl,h1,h2,h3⟩
 have hSlen:∀ k,memN S k=true→idx S k < S.length:=fun k hk=>(List.getElem?_eq_some_iff.1 (idx_get hk)).1
 have hSR:∀ k,memN S k=true→R.length≤k:=fun k hk=>Nat.le_of_ble_eq_true (List.all_eq_true.1 hS k (memN_iff.1 hk))
 let φ2:Em:=fun r=>if N≤r∧r < N + S.length then φ' (S.getD (r - N) 0) else φ r
 have hin:∀ r,N≤r∧r < N + S.length→φ2 r=φ' (S.getD (r - N) 0):=fun r h=>if_pos h
 have hout:∀ r,¬ (N≤r∧r < N + S.length)→φ2 r=φ r:=fun r h=>if_neg h
 have hSget:∀ k,memN S k=true→S.getD (N + idx S k - N) 0=k:=fun k hk=>by
  rw [Nat.add_sub_cancel_left,List.getD_eq_getElem?_getD,idx_get hk];rfl
 have hsgS:∀ k,memN S k=true→sgc R S N k=N + idx S k:=fun k hk=>by
  unfold sgc
  have:Nat.blt k R.length=false:=by rw [Bool.eq_false_iff,ne_eq,Nat.blt_eq];have:=hSR k hk;omega
  rw [this]
 have hsgR:∀ (k r:Nat),R[k]?=some r→sgc R S N k=r:=fun k r hk=>by
  unfold sgc
  have:Nat.blt k R.length=true:=by rw [Nat.blt_eq];exact (List.getElem?_eq_some_iff.1 hk).1
  rw [this,List.getD_eq_getElem?_getD,hk];rfl
 have hRmem:∀ (k r:Nat),R[k]?=some r→memN R r=true:=fun k r hk=>memN_iff.2 (List.mem_of_getElem? hk)
 have hpk:∀ k,pgc R S k=true→(∃ r,R[k]?=some r)∨memN S k=true:=fun k hk=>by
  unfold pgc at hk
  rw [Bool.or_eq_true,Nat.blt_eq] at hk
  exact hk.imp (fun h=>⟨R[k],List.getElem?_eq_getElem h⟩) id
 have hkey:∀ k,pgc R S k=true→φ2 (sgc R S N k)=φ' k:=fun k hk=>by
  rcases hpk k hk with ⟨r,hr⟩|hs
  ·rw [hsgR k r hr,hout r (by have:=hRN r (hRmem k r hr);omega),← hφc k r hr]
   exact (h1.ph k (by have:=(List.getElem?_eq_some_iff.1 hr).1;omega)).symm
  ·rw [hsgS k hs,hin _ (by have:=hSlen k hs;omega),hSget k hs]
 -- what is owned behind the call
 let K':Hp:=ovr K (R++(List.range S.length).map (N + ·)) (hpc R S N Hc H)
 have hK':∀ r cs',K' r=some cs'→(∃ k cs,pgc R S k=true∧sgc R S N k=r∧Hc k=some cs∧cs'=cs.map (Go.Proofs.YtbfnfgpjgdbmeaaGreatDoor.ren1 (sgc R S N)))∨(memN R r=false∧¬ (N≤r∧r < N + S.length)∧K r=some cs'):=fun r cs' hr=>by
  have hr':(if r∈R++(List.range S.length).map (N + ·) then hpc R S N Hc H r else K r)=some cs':=hr
  cases hm:memN R r with
  | true =>
   rw [if_pos (List.mem_append.2 (.inl (memN_iff.1 hm)))] at hr'
   unfold hpc at hr'
   rw [hm] at hr'
   obtain ⟨cs,i1,rfl⟩:=Option.map_eq_some_iff.1 hr'
   exact .inl ⟨idx R r,cs,(hHc _ _ i1).1,hsgR _ _ (idx_get hm),i1,rfl⟩
  | false =>
   by_cases hg:N≤r∧r < N + S.length
   ·rw [if_pos (List.mem_append.2 (.inr (List.mem_map.2 ⟨r - N,List.mem_range.2 (by omega),by omega⟩)))] at hr'
    unfold hpc at hr'
    rw [hm,(hrange r).2 hg] at hr'
    obtain ⟨cs,i1,rfl⟩:=Option.map_eq_some_iff.1 hr'
    have hget:S[r - N]?=some (S.getD (r - N) 0):=by
     have hlt:r - N < S.length:=by omega
     rw [List.getD_eq_getElem?_getD,List.getElem?_eq_getElem hlt];rfl
    have hmS:memN S (S.getD (r - N) 0)=true:=memN_iff.2 (List.mem_of_getElem? hget)
    refine .inl ⟨_,cs,(hHc _ _ i1).1,?_,i1,rfl⟩
    rw [hsgS _ hmS,idx_of hSd hget]
    omega
   ·rw [if_neg (by
     simp only [List.mem_append,List.mem_map,List.mem_range,not_or,not_exists,not_and]
     exact ⟨fun e=>(by rw [memN_iff.2 e] at hm;cases hm),fun j hj e=>hg (by omega)⟩)] at hr'
    exact .inr ⟨rfl,hg,hr'⟩
 have hfree:∀ r,N≤r∧r < N + S.length→φ r=none:=fun r h=>hff r h.1 (by omega)
 have hφe:∀ r y,φ r=some y→φ2 r=some y:=fun r y h=>by
  rw [hout r (fun e=>by rw [hfree r e] at h;cases h)];exact h
 -- a block of the callee is one of those that were handed in, or new
 have hold:∀ k cs b o',Hc k=some cs→φ' k=some (b,o')→w.heap.size≤b∨∃ r cs0 o0,memN R r=true∧K r=some cs0∧φ r=some (b,o0):=fun k cs b o' hk hp=>by
  rcases h1.lv k cs b o' hk hp with h4|⟨k0,cs0,o0,h4,h5⟩
  ·exact .inl h4
  ·obtain ⟨r,d,i1,_,i3,_⟩:=hH1 k0 cs0 h4
   exact .inr ⟨r,d,o0,hRmem _ _ i1,i3,by rw [← hφc k0 r i1];exact h5⟩
 have hrest:=nxt_pure (K:=fun r=>match memN R r with|true=>none|false=>K r) (hst.drop fun r cs hr=>by
  revert hr
  cases memN R r with
  | true=>exact fun h=>by cases h
  | false=>exact fun h=>h) h1 (fun b o' r cs hr hp k cs' o2 hk hp2=>by
   revert hr
   cases hm:memN R r with
   | true=>exact fun h=>by cases h
   | false =>
    intro hr
    obtain ⟨r2,d,i1,_,i3,_⟩:=hH1 k cs' hk
    rw [hφc k r2 i1] at hp2
    have:=hst.2 r r2 cs d b o' o2 hr i3 hp hp2
    subst this
    rw [hRmem _ _ i1] at hm
    cases hm) (fun k cs b o' hk hp=>by
   obtain ⟨r2,d,i1,_,i3,_⟩:=hH1 k cs hk
   rw [hφc k r2 i1] at hp
   obtain ⟨_,j2⟩|⟨b2,o2,j1,j2,_⟩:=hst.1 r2 d i3
   ·rw [j2] at hp;cases hp
   ·rw [j1] at hp
    injection hp with hp
    injection hp with e1 e2
    rw [← e1];exact j2)
 obtain ⟨k1,k2,_⟩:=hrest
 have hxk:∀ b,b < w.heap.size→X b→X' b∨∃ r cs o,K r=some cs∧φ r=some (b,o):=fun b hb hxb=>by
  rcases h1.xk b hb hxb with h|⟨k,cs,o',hk,hp⟩
  ·exact .inl h
  ·obtain ⟨r,d,i1,_,i3,_⟩:=hH1 k cs hk
   rw [hφc k r i1] at hp
   exact .inr ⟨r,d,o',i3,hp⟩
 refine ⟨_,rfl,X',φ2,⟨h1.os,h1.tape,h1.output,h1.size,fun b hb hn'=>h1.same b hb fun k cs o' hk hp=>?_,h1.bs,h1.xs,fun b hb hxb=>hxk b hb hxb,fun r hr=>hout r (fun e=>hr ⟨e.1,by omega⟩),fun r cs' b o' i1 i2=>?_⟩,⟨fun r cs' hr=>?_,fun r1 r2 c1 c2 b o1 o2 i1 i2 i3 i4=>?_,h2.gl⟩,h3.ren3 hkey hv⟩
 ·obtain ⟨r,d,i1,_,i3,_⟩:=hH1 k cs hk
  rw [hφc k r i1] at hp
  exact hn' r d o' i3 hp
 ·rcases hK' r cs' i1 with ⟨k,cs,j1,j2,j3,_⟩|⟨_,j2,j3⟩
  ·rw [← j2,hkey k j1] at i2
   rcases hold k cs b o' j3 i2 with h4|⟨r0,d0,o0,_,h5,h6⟩
   ·exact .inl h4
   ·exact .inr ⟨r0,d0,o0,h5,h6⟩
  ·rw [hout r j2] at i2
   exact .inr ⟨r,cs',o',j3,i2⟩
 ·rcases hK' r cs' hr with ⟨k,cs,j1,j2,j3,rfl⟩|⟨j1,j2,j3⟩
  ·rw [← j2,hkey k j1]
   obtain ⟨rfl,j5⟩|⟨b,o',j4,j5,j6⟩:=h2.1 k cs j3
   ·exact .inl ⟨rfl,j5⟩
   ·exact .inr ⟨b,o',j4,j5,j6.ren hkey (hHc k cs j3).2⟩
  ·rw [hout r j2]
   obtain ⟨j4,j5⟩|⟨b,o',j4,j5,j6⟩:=k2.1 r cs' (by show (match memN R r with|true=>none|false=>K r)=_;rw [j1];exact j3)
   ·exact .inl ⟨j4,j5⟩
   ·exact .inr ⟨b,o',j4,j5,j6.keep rfl fun v a h=>h.keep (Nat.le_refl _) (fun _ _ _=>rfl) (fun _ _=>rfl) (fun _ _ h=>h) hφe⟩
 ·have hAB:∀ k cs r2 c2' o1' o2',pgc R S k=true→Hc k=some cs→φ' k=some (b,o1')→memN R r2=false→K r2=some c2'→φ r2=some (b,o2')→False:=fun k cs r2 c2' o1' o2' a1 a2 a3 a4 a5 a6=>by
   rcases hold k cs b o1' a2 a3 with h4|⟨r0,d0,o0,h5,h6,h7⟩
   ·obtain ⟨_,j2⟩|⟨b2,o3,j1,j2,j3⟩:=hst.1 r2 c2' a5
    ·rw [j2] at a6;cases a6
    ·rw [j1] at a6
     injection a6 with a6
     injection a6 with e1 e2
     have:=j3.lt
     omega
   ·have:=hst.2 r0 r2 d0 c2' b o0 o2' h6 a5 h7 a6
    subst this
    rw [h5] at a4
    cases a4
  rcases hK' r1 c1 i1 with ⟨k,cs,j1,rfl,j3,_⟩|⟨j1,j2,j3⟩<;>rcases hK' r2 c2 i2 with ⟨k',cs',l1,rfl,l3,_⟩|⟨l1,l2,l3⟩
  ·rw [hkey k j1] at i3
   rw [hkey k' l1] at i4
   rw [h2.2 k k' cs cs' b o1 o2 j3 l3 i3 i4]
  ·rw [hkey k j1] at i3
   rw [hout _ l2] at i4
   exact (hAB k cs r2 c2 o1 o2 j1 j3 i3 l1 l3 i4).elim
  ·rw [hkey k' l1] at i4
   rw [hout _ j2] at i3
   exact (hAB k' cs' r1 c1 o2 o1 l1 l3 i4 j1 j3 i3).elim
  ·rw [hout _ j2] at i3
   rw [hout _ l2] at i4
   exact hst.2 r1 r2 c1 c2 b o1 o2 j3 l3 i3 i4
end
abbrev HL:=List (Nat × List AV)
def lkH:HL→Nat→Option (List AV)
 | [],_=>none
 | (k,c)::l,r=>match Nat.beq k r with
  | true=>some c
  | false=>lkH l r
def putH:HL→Nat→List AV→HL
 | [],r,c=>[(r,c)]
 | (k,d)::l,r,c=>match Nat.beq k r with
  | true=>(k,c)::l
  | false=>(k,d)::putH l r c
def delH:HL→Nat→HL
 | [],_=>[]
 | (k,d)::l,r=>match Nat.beq k r with
  | true=>delH l r
  | false=>(k,d)::delH l r
theorem lk_cons (L:HL) (r:Nat) (c:List AV):lkH ((r,c)::L)=up (lkH L) r (some c):=by
 funext x
 unfold lkH
 cases h:Nat.beq r x with
 | true=>have:=Nat.eq_of_beq_eq_true h;subst this;simp [up_at]
 | false=>have:=Nat.ne_of_beq_eq_false h;simp [up_ne (Ne.symm this)]
theorem lk_put (L:HL) (r:Nat) (c:List AV):lkH (putH L r c)=up (lkH L) r (some c):=by
 induction L with
 | nil=>rw [putH,lk_cons]
 | cons p l ih =>
  obtain ⟨k,d⟩:=p
  unfold putH
  cases h:Nat.beq k r with
  | true =>
   have:=Nat.eq_of_beq_eq_true h
   subst this
   simp only [lk_cons]
   funext x
   by_cases hx:x=k
   ·subst hx;rw [up_at,up_at]
   ·rw [up_ne hx,up_ne hx,up_ne hx]
  | false =>
   have:=Nat.ne_of_beq_eq_false h
   simp only [lk_cons,ih]
   funext x
   by_cases hx:x=k
   ·subst hx;rw [up_at,up_ne this,up_at]
   ·by_cases hy:x=r
    ·subst hy;rw [up_ne hx,up_at,up_at]
    ·rw [up_ne hx,up_ne hy,up_ne hy,up_ne hx]
theorem lk_del (L:HL) (r:Nat):lkH (delH L r)=up (lkH L) r none:=by
 induction L with
 | nil => funext x; by_cases hx : x = r
          · subst hx; rw [up_at]; rfl
          · rw [up_ne hx]; rfl
 | cons p l ih =>
  obtain ⟨k,d⟩:=p
  unfold delH
  cases h:Nat.beq k r with
  | true =>
   have:=Nat.eq_of_beq_eq_true h
   subst this
   simp only [ih,lk_cons]
   funext x
   by_cases hx:x=k
   ·subst hx;rw [up_at,up_at]
   ·rw [up_ne hx,up_ne hx,up_ne hx]
  | false =>
   have:=Nat.ne_of_beq_eq_false h
   simp only [lk_cons,ih]
   funext x
   by_cases hx:x=k
   ·subst hx;rw [up_at,up_ne this,up_at]
   ·by_cases hy:x=r
    ·subst hy;rw [up_ne hx,up_at,up_at]
    ·rw [up_ne hx,up_ne hy,up_ne hy,up_ne hx]
structure Res where
 rd:List Nat
 wr:List Nat
 v:AV
 L:HL
def tkE (cs:List AV) (k n:Nat):Option (List AV):=match Nat.beq ((cs.drop k).take n).length n with
 | true=>some ((cs.drop k).take n)
 | false=>none
theorem tkE_ok {cs vs:List AV} {k n:Nat} (h:tkE cs k n=some vs):Tk cs k n vs:=by
 unfold tkE at h
 split at h
 ·rename_i hb
  injection h with h
  subst h
  refine ⟨Nat.eq_of_beq_eq_true hb,fun j c hj=>?_⟩
  rw [List.getElem?_take] at hj
  split at hj
  ·rw [List.getElem?_drop] at hj;exact hj
  ·cases hj
 ·cases h
def spE (cs:List AV) (k:Nat) (ns:List AV):Option (List AV):=match Nat.ble (k + ns.length) cs.length with
 | true=>some (cs.take k++(ns++cs.drop (k + ns.length)))
 | false=>none
theorem spE_ok {cs ns cs':List AV} {k:Nat} (h:spE cs k ns=some cs'):Sp cs k ns cs':=by
 unfold spE at h
 split at h
 ·rename_i hb
  have hb:=Nat.le_of_ble_eq_true hb
  injection h with h
  subst h
  have hk:(cs.take k).length=k:=by rw [List.length_take];omega
  refine ⟨hb,by simp only [List.length_append,List.length_take,List.length_drop];omega,fun j c hj=>?_⟩
  rw [List.getElem?_append] at hj
  split at hj
  ·rename_i h1
   rw [hk] at h1
   rw [List.getElem?_take,if_pos h1] at hj
   exact .inr ⟨.inl h1,hj⟩
  ·rename_i h1
   rw [hk] at h1 hj
   rw [List.getElem?_append] at hj
   split at hj
   ·exact .inl ⟨by omega,hj⟩
   ·rename_i h2
    rw [List.getElem?_drop] at hj
    refine .inr ⟨.inr (by omega),?_⟩
    rw [← hj]
    congr 1
    omega
 ·cases h
structure Tys (P:Program) where
 tab:Nat→Option TyRow
 ok:∀ t l s b z,tab t=some (l,s,b,z)→TyOK P t l s b z
section
variable {P:Program} (Y:Tys P) (o:Oper) (E:Operand→Option AV) (L:HL) (N:Nat)
def eLoad (t:TypeId) (x:Operand):Option Res:=match E x with
 | some (.own r off)=>match lkH L r,Y.tab t with
  | some cs,some (l,size,_,_)=>match l.agg with
   | true=>match tkE cs off size with
    | some vs=>some ⟨[r],[],.agg vs,L⟩
    | none=>none
   | false=>match cs[off]? with
    | some a=>some ⟨[r],[],a,L⟩
    | none=>none
  | _,_=>none
 | some (.imm cs off)=>match Y.tab t with
  | some (l,size,_,_)=>match l.agg with
   | true=>match tkE cs off size with
    | some vs=>some ⟨[],[],.agg vs,L⟩
    | none=>none
   | false=>match cs[off]? with
    | some a=>some ⟨[],[],a,L⟩
    | none=>none
  | _=>none
 | _=>none
theorem eLoad_ok {t:TypeId} {x:Operand} {R:Res} (ho:o.op=.load t x) (h:eLoad Y E L t x=some R):LO P o E (lkH L) N R.rd R.wr R.v (lkH R.L):=by
 unfold eLoad at h
 split at h
 ·rename_i r off hx
  split at h
  ·rename_i cs l size b z hl ht
   split at h<;>rename_i hg<;>(split at h<;>first|(cases h;done)|skip)<;>rename_i vs hv<;>(injection h with h;subst h)
   ·exact .load_agg ho hx hl (Y.ok _ _ _ _ _ ht) hg (tkE_ok hv)
   ·exact .load ho hx hl hv (Y.ok _ _ _ _ _ ht) hg
  ·cases h
 ·rename_i cs off hx
  split at h
  ·rename_i l size b z ht
   split at h<;>rename_i hg<;>(split at h<;>first|(cases h;done)|skip)<;>rename_i vs hv<;>(injection h with h;subst h)
   ·exact .load_imm_agg ho hx (Y.ok _ _ _ _ _ ht) hg (tkE_ok hv)
   ·exact .load_imm ho hx hv (Y.ok _ _ _ _ _ ht) hg
  ·cases h
 ·cases h
def eStore (t:TypeId) (x y:Operand):Option Res:=match E x,E y with
 | some (.own r off),some a=>match lkH L r,Y.tab t with
  | some cs,some (_,size,_,_)=>match a.okb && Nat.beq a.cells.length size && Nat.blt 0 size with
   | true=>match spE cs off a.cells with
    | some cs'=>some ⟨[],[r],.base undef,putH L r cs'⟩
    | none=>none
   | false=>none
  | _,_=>none
 | _,_=>none
theorem eStore_ok {t:TypeId} {x y:Operand} {R:Res} (ho:o.op=.store t x y) (h:eStore Y E L t x y=some R):LO P o E (lkH L) N R.rd R.wr R.v (lkH R.L):=by
 unfold eStore at h
 split at h<;>first|(cases h;done)|skip
 rename_i r off a hx hy
 split at h<;>first|(cases h;done)|skip
 rename_i cs l size b z hl ht
 split at h<;>first|(cases h;done)|skip
 rename_i hg
 simp only [Bool.and_eq_true] at hg
 split at h<;>first|(cases h;done)|skip
 rename_i cs' hs
 injection h with h
 subst h
 simp only [lk_put]
 exact .store ho hx hy hl hg.1.1 (Y.ok _ _ _ _ _ ht) (Nat.eq_of_beq_eq_true hg.1.2) (by simpa using hg.2) (spE_ok hs)
def eFieldAddr (t:TypeId) (x:Operand) (i:Nat):Option Res:=match Y.tab t with
 | some (.st fs,_,_,_)=>match fs[i]? with
  | some (d,s,_)=>match Nat.blt 0 s with
   | true=>match E x with
    | some (.own r off)=>some ⟨[],[],.own r (off + d),L⟩
    | some (.imm cs off)=>some ⟨[],[],.imm cs (off + d),L⟩
    | _=>none
   | false=>none
  | none=>none
 | _=>none
theorem eFieldAddr_ok {t:TypeId} {x:Operand} {i:Nat} {R:Res} (ho:o.op=.fieldAddr t x i) (h:eFieldAddr Y E L t x i=some R):LO P o E (lkH L) N R.rd R.wr R.v (lkH R.L):=by
 unfold eFieldAddr at h
 split at h<;>first|(cases h;done)|skip
 rename_i fs s0 b z ht
 split at h<;>first|(cases h;done)|skip
 rename_i d s ty hi
 split at h<;>first|(cases h;done)|skip
 rename_i h0
 have h0:0 < s:=by simpa using h0
 split at h
 ·rename_i r off hx
  injection h with h;subst h
  exact .fieldAddr ho hx (Y.ok _ _ _ _ _ ht) hi h0
 ·rename_i cs off hx
  injection h with h;subst h
  exact .fieldAddr_imm ho hx (Y.ok _ _ _ _ _ ht) hi h0
 ·cases h
def eField (t:TypeId) (x:Operand) (i:Nat):Option Res:=match Y.tab t with
 | some (.st fs,_,_,_)=>match fs[i]? with
  | some (d,_,ty)=>match E x,Y.tab ty with
   | some (.agg cs),some (l,size,_,_)=>match l.agg with
    | true=>match tkE cs d size with
     | some vs=>some ⟨[],[],.agg vs,L⟩
     | none=>none
    | false=>match cs[d]? with
     | some a=>some ⟨[],[],a,L⟩
     | none=>none
   | _,_=>none
  | none=>none
 | _=>none
theorem eField_ok {t:TypeId} {x:Operand} {i:Nat} {R:Res} (ho:o.op=.field t x i) (h:eField Y E L t x i=some R):LO P o E (lkH L) N R.rd R.wr R.v (lkH R.L):=by
 unfold eField at h
 split at h<;>first|(cases h;done)|skip
 rename_i fs s0 b z ht
 split at h<;>first|(cases h;done)|skip
 rename_i d s ty hi
 split at h<;>first|(cases h;done)|skip
 rename_i cs l size b' z' hx he
 split at h<;>rename_i hg<;>(split at h<;>first|(cases h;done)|skip)<;>rename_i vs hv<;>(injection h with h;subst h)
 ·exact .field_agg ho hx (Y.ok _ _ _ _ _ ht) hi (Y.ok _ _ _ _ _ he) hg (tkE_ok hv)
 ·exact .field ho hx hv (Y.ok _ _ _ _ _ ht) hi (Y.ok _ _ _ _ _ he) hg
def natOf:Int→Option Nat
 | .ofNat n=>some n
 | .negSucc _=>none
theorem natOf_ok {i:Int} {n:Nat} (h:natOf i=some n):i=(n:Int):=by
 cases i with
 | ofNat m=>injection h with h;rw [h];rfl
 | negSucc m=>cases h
def eNat (x:Operand):Option (IntKind × Nat):=match E x with
 | some (.base (.int k i))=>match natOf i with
  | some n=>some (k,n)
  | none=>none
 | _=>none
theorem eNat_ok {x:Operand} {k:IntKind} {n:Nat} (h:eNat E x=some (k,n)):E x=some (.base (.int k (n:Int))):=by
 unfold eNat at h
 split at h<;>first|(cases h;done)|skip
 rename_i k' i hx
 split at h<;>first|(cases h;done)|skip
 rename_i n' hn
 injection h with h
 injection h with h1 h2
 subst h1 h2
 rw [hx,natOf_ok hn]
def eIndexAddr (t:TypeId) (x y:Operand):Option Res:=match eNat E y with
 | some (_,j)=>match Y.tab t with
  | some (.sl e,_,_,_)=>match Y.tab e with
   | some (_,sz,_,_)=>match E x with
    | some (.osl r off len _)=>match Nat.blt j len with
     | true=>some ⟨[],[],.own r (off + j * sz),L⟩
     | false=>none
    | some a=>match a.isl? with
     | some (cs,len)=>match Nat.blt j len with
      | true=>some ⟨[],[],.imm cs (j * sz),L⟩
      | false=>none
     | none=>none
    | none=>none
   | none=>none
  | some (.arr n e,_,_,_)=>match Y.tab e with
   | some (_,sz,_,_)=>match Nat.blt j n with
    | true=>match E x with
     | some (.own r off)=>some ⟨[],[],.own r (off + j * sz),L⟩
     | some (.imm cs off)=>some ⟨[],[],.imm cs (off + j * sz),L⟩
     | _=>none
    | false=>none
   | none=>none
  | _=>none
 | none=>none
theorem eIndexAddr_ok {t:TypeId} {x y:Operand} {R:Res} (ho:o.op=.indexAddr t x y) (h:eIndexAddr Y E L t x y=some R):LO P o E (lkH L) N R.rd R.wr R.v (lkH R.L):=by
 unfold eIndexAddr at h
 split at h<;>first|(cases h;done)|skip
 rename_i k j hj
 have hy:=eNat_ok E hj
 split at h<;>first|(cases h;done)|skip
 ·rename_i e s0 b z ht
  split at h<;>first|(cases h;done)|skip
  rename_i l' sz b' z' he
  split at h<;>first|(cases h;done)|skip
  ·rename_i r off len sz0 hx
   split at h<;>first|(cases h;done)|skip
   rename_i hlt
   injection h with h;subst h
   exact .indexAddr ho hx hy rfl (Y.ok _ _ _ _ _ ht) (Y.ok _ _ _ _ _ he) (by simpa using hlt)
  ·rename_i a _ hx
   split at h<;>first|(cases h;done)|skip
   rename_i cs len ha
   split at h<;>first|(cases h;done)|skip
   rename_i hlt
   injection h with h;subst h
   exact .indexAddr_isl ho hx ha hy rfl (Y.ok _ _ _ _ _ ht) (Y.ok _ _ _ _ _ he) (by simpa using hlt)
 ·rename_i n e s0 b z ht
  split at h<;>first|(cases h;done)|skip
  rename_i l' sz b' z' he
  split at h<;>first|(cases h;done)|skip
  rename_i hlt
  split at h<;>first|(cases h;done)|skip
  ·rename_i r off hx
   injection h with h;subst h
   exact .indexAddr_ar ho hx hy rfl (Y.ok _ _ _ _ _ ht) (Y.ok _ _ _ _ _ he) (by simpa using hlt)
  ·rename_i cs off hx
   injection h with h;subst h
   exact .indexAddr_imm ho hx hy rfl (Y.ok _ _ _ _ _ ht) (Y.ok _ _ _ _ _ he) (by simpa using hlt)
def eIndex (t:TypeId) (x y:Operand):Option Res:=match eNat E y with
 | some (_,j)=>match Y.tab t with
  | some (.arr n e,_,_,_)=>match Y.tab e with
   | some (l,sz,_,_)=>match Nat.blt j n with
    | true=>match E x with
     | some (.agg cs)=>match l.agg with
      | true=>match tkE cs (j * sz) sz with
       | some vs=>some ⟨[],[],.agg vs,L⟩
       | none=>none
      | false=>match cs[j * sz]? with
       | some a=>some ⟨[],[],a,L⟩
       | none=>none
     | _=>none
    | false=>none
   | none=>none
  | some (.str,_,_,_)=>match E x with
   | some (.base (.string s))=>match s[j]? with
    | some b=>some ⟨[],[],.base (.int .u8 (b.toNat:Int)),L⟩
    | none=>none
   | _=>none
  | _=>none
 | none=>none
theorem eIndex_ok {t:TypeId} {x y:Operand} {R:Res} (ho:o.op=.index t x y) (h:eIndex Y E L t x y=some R):LO P o E (lkH L) N R.rd R.wr R.v (lkH R.L):=by
 unfold eIndex at h
 split at h<;>first|(cases h;done)|skip
 rename_i k j hj
 have hy:=eNat_ok E hj
 split at h<;>first|(cases h;done)|skip
 ·rename_i n e s0 b z ht
  split at h<;>first|(cases h;done)|skip
  rename_i l' sz b' z' he
  split at h<;>first|(cases h;done)|skip
  rename_i hlt
  split at h<;>first|(cases h;done)|skip
  rename_i cs hx
  split at h<;>rename_i hg<;>(split at h<;>first|(cases h;done)|skip)<;>rename_i vs hv<;>(injection h with h;subst h)
  ·exact .index_agg ho hx hy rfl (Y.ok _ _ _ _ _ ht) (Y.ok _ _ _ _ _ he) hg (by simpa using hlt) (tkE_ok hv)
  ·exact .index ho hx hy rfl (Y.ok _ _ _ _ _ ht) (Y.ok _ _ _ _ _ he) hg (by simpa using hlt) hv
 ·rename_i s0 b z ht
  split at h<;>first|(cases h;done)|skip
  rename_i s hx
  split at h<;>first|(cases h;done)|skip
  rename_i c hc
  injection h with h;subst h
  exact .indexStr ho hx hy rfl (Y.ok _ _ _ _ _ ht) hc
end
def kEq (k k':IntKind):Bool:=decide (k=k')
def intBin (op:BinOp) (k:IntKind) (m n:Int):Option Value:=match op with
 | .add=>some (.int k (k.wrap (m + n)))
 | .sub=>some (.int k (k.wrap (m - n)))
 | .mul=>some (.int k (k.wrap (m * n)))
 | .quo=>match decide (n=0) with
  | true=>none
  | false=>some (.int k (k.wrap (m.tdiv n)))
 | .rem=>match decide (n=0) with
  | true=>none
  | false=>some (.int k (m.tmod n))
 | .and=>some (.int k (bitV .and k m n))
 | .or=>some (.int k (bitV .or k m n))
 | .xor=>some (.int k (bitV .xor k m n))
 | .andNot=>some (.int k (bitV .andNot k m n))
 | .eql=>some (.bool (m == n))
 | .neq=>some (.bool (m != n))
 | .lss=>some (.bool (decide (m < n)))
 | .leq=>some (.bool (decide (m≤n)))
 | .gtr=>some (.bool (decide (n < m)))
 | .geq=>some (.bool (decide (n≤m)))
 | .shl|.shr=>none
def intShf (op:BinOp) (k:IntKind) (m:Int) (j:Nat):Option Value:=match op with
 | .shl=>some (.int k (k.wrap (m * 2 ^ (min j k.bits))))
 | .shr=>some (.int k (m.fdiv (2 ^ (min j k.bits))))
 | _=>none
def beqL:List UInt8→List UInt8→Bool
 | [],[]=>true
 | a::l,b::k=>match Nat.beq a.toNat b.toNat with
  | true=>beqL l k
  | false=>false
 | _,_=>false
theorem beqL_eq (a b:List UInt8):beqL a b=(a == b):=by
 induction a generalizing b with
 | nil=>cases b<;>rfl
 | cons x l ih =>
  cases b with
  | nil=>rfl
  | cons y k =>
   unfold beqL
   rw [List.cons_beq_cons]
   cases h:Nat.beq x.toNat y.toNat with
   | true =>
    have:=UInt8.toNat_inj.1 (Nat.eq_of_beq_eq_true h)
    subst this
    simp [ih]
   | false =>
    have:=Nat.ne_of_beq_eq_false h
    have hne:x≠y:=fun e=>this (by rw [e])
    simp [hne]
def strBin (op:BinOp) (a b:List UInt8):Option Value:=match op with
 | .add=>match Nat.ble (a.length + b.length) 1099511627776 with
  | true=>some (.string ⟨⟨a++b⟩⟩)
  | false=>none
 | .eql=>some (.bool (beqL a b))
 | .neq=>some (.bool (!beqL a b))
 | _=>none
section
variable {P:Program} (Y:Tys P) (o:Oper) (E:Operand→Option AV) (L:HL) (N:Nat)
def eBin (op:BinOp) (t:TypeId) (x y:Operand):Option Res:=match E x,E y with
 | some (.base (.int k m)),some (.base (.int k' n))=>match intBin op k m n with
  | some v=>match kEq k k' with
   | true=>some ⟨[],[],.base v,L⟩
   | false=>none
  | none=>match natOf n with
   | some j=>match intShf op k m j with
    | some v=>some ⟨[],[],.base v,L⟩
    | none=>none
   | none=>none
 | some (.base (.bool b)),some (.base (.bool b'))=>match Y.tab t with
  | some (.bool,_,_,_)=>match op with
   | .eql=>some ⟨[],[],.base (.bool (b == b')),L⟩
   | .neq=>some ⟨[],[],.base (.bool (!(b == b'))),L⟩
   | _=>none
  | _=>none
 | some (.base (.string ⟨⟨a⟩⟩)),some (.base (.string ⟨⟨b⟩⟩))=>match strBin op a b with
  | some v=>some ⟨[],[],.base v,L⟩
  | none=>none
 | _,_=>none
set_option maxHeartbeats 2000000 in
theorem eBin_ok {op:BinOp} {t ty:TypeId} {x y:Operand} {R:Res} (ho:o.op=.binOp op t x y ty) (h:eBin Y E L op t x y=some R):LO P o E (lkH L) N R.rd R.wr R.v (lkH R.L):=by
 unfold eBin at h
 split at h<;>first|(cases h;done)|skip
 ·rename_i k m k' n hx hy
  split at h<;>first|(cases h;done)|skip
  ·rename_i v hv
   split at h<;>first|(cases h;done)|skip
   rename_i hk
   have hk:k=k':=of_decide_eq_true hk
   subst hk
   injection h with h;subst h
   cases op<;>simp only [intBin] at hv<;>first|(cases hv;done)|skip
   ·injection hv with hv;subst hv;exact .add ho hx hy
   ·injection hv with hv;subst hv;exact .sub ho hx hy
   ·injection hv with hv;subst hv;exact .mul ho hx hy
   ·split at hv<;>first|(cases hv;done)|skip
    rename_i hn
    injection hv with hv;subst hv;exact .quo ho hx hy (of_decide_eq_false hn)
   ·split at hv<;>first|(cases hv;done)|skip
    rename_i hn
    injection hv with hv;subst hv;exact .rem ho hx hy (of_decide_eq_false hn)
   ·injection hv with hv;subst hv;exact .and ho hx hy
   ·injection hv with hv;subst hv;exact .or ho hx hy
   ·injection hv with hv;subst hv;exact .xor ho hx hy
   ·injection hv with hv;subst hv;exact .andNot ho hx hy
   ·injection hv with hv;subst hv;exact .eql ho hx hy
   ·injection hv with hv;subst hv;exact .neq ho hx hy
   ·injection hv with hv;subst hv;exact .lss ho hx hy
   ·injection hv with hv;subst hv;exact .leq ho hx hy
   ·injection hv with hv;subst hv;exact .gtr ho hx hy
   ·injection hv with hv;subst hv;exact .geq ho hx hy
  ·split at h<;>first|(cases h;done)|skip
   rename_i j hj
   have hn:=natOf_ok hj
   subst hn
   split at h<;>first|(cases h;done)|skip
   rename_i v hv
   injection h with h;subst h
   cases op<;>simp only [intShf] at hv<;>first|(cases hv;done)|skip
   ·injection hv with hv;subst hv;have e:=LO.shl (P:=P) (H:=lkH L) (f:=N) ho hx hy (by omega);rw [Int.toNat_natCast] at e;exact e
   ·injection hv with hv;subst hv;have e:=LO.shr (P:=P) (H:=lkH L) (f:=N) ho hx hy (by omega);rw [Int.toNat_natCast] at e;exact e
 ·rename_i b b' hx hy
  split at h<;>first|(cases h;done)|skip
  rename_i s0 b0 z ht
  split at h<;>first|(cases h;done)|skip
  ·injection h with h;subst h;exact .eql_bool ho hx hy (Y.ok _ _ _ _ _ ht)
  ·injection h with h;subst h;exact .neq_bool ho hx hy (Y.ok _ _ _ _ _ ht)
 ·rename_i a b hx hy
  split at h<;>first|(cases h;done)|skip
  rename_i v hv
  injection h with h;subst h
  cases op<;>simp only [strBin] at hv<;>first|(cases hv;done)|skip
  ·split at hv<;>first|(cases hv;done)|skip
   rename_i hl
   rw [Nat.ble_eq] at hl
   injection hv with hv;subst hv
   refine .bin ho hx hy fun w=>?_
   have hs:¬ ((((⟨⟨a⟩⟩:ByteArray).size + (⟨⟨b⟩⟩:ByteArray).size:Nat):Int) > IntKind.i64.max):=by
    show ¬ (((a.length + b.length:Nat):Int) > IntKind.i64.max)
    have:IntKind.i64.max=9223372036854775807:=by rfl
    rw [this]
    omega
   simp only [eqGuard,Go.binOp,Op.stringOp,hs,if_false]
   simp [Sem.run_pure]
   rfl
  ·injection hv with hv;subst hv
   have:=LO.eql_str (P:=P) (H:=lkH L) (f:=N) ho hx hy
   rw [ByteArray.toList_eq,ByteArray.toList_eq] at this
   rw [beqL_eq]
   exact this
  ·injection hv with hv;subst hv
   have:=LO.neq_str (P:=P) (H:=lkH L) (f:=N) ho hx hy
   rw [ByteArray.toList_eq,ByteArray.toList_eq] at this
   rw [beqL_eq]
   exact this
def eUn (op:UnOp) (x:Operand):Option Res:=match E x with
 | some (.base (.int k m))=>match op with
  | .neg=>some ⟨[],[],.base (.int k (k.wrap (0 - m))),L⟩
  | _=>none
 | some (.base (.bool b))=>match op with
  | .not=>some ⟨[],[],.base (.bool (!b)),L⟩
  | _=>none
 | _=>none
theorem eUn_ok {op:UnOp} {t:TypeId} {x:Operand} {R:Res} (ho:o.op=.unOp op t x) (h:eUn E L op x=some R):LO P o E (lkH L) N R.rd R.wr R.v (lkH R.L):=by
 unfold eUn at h
 split at h<;>first|(cases h;done)|skip
 ·rename_i k m hx
  split at h<;>first|(cases h;done)|skip
  injection h with h;subst h;exact .neg ho hx
 ·rename_i b hx
  split at h<;>first|(cases h;done)|skip
  injection h with h;subst h;exact .not ho hx
def filE (E:Operand→Option AV) (pl:Nat→Option (Nat × Nat)):List AV→List (Nat × Operand)→Option (List AV)
 | cs,[]=>some cs
 | cs,(i,x)::ps=>match E x,pl i with
  | some a,some (off,sz)=>match a.okb && Nat.beq a.cells.length sz with
   | true=>match spE cs off a.cells with
    | some cs1=>filE E pl cs1 ps
    | none=>none
   | false=>none
  | _,_=>none
theorem filE_ok {pl:Nat→Option (Nat × Nat)}:∀ {ps:List (Nat × Operand)} {cs cs':List AV},filE E pl cs ps=some cs'→Fil E pl cs ps cs':=by
 intro ps
 induction ps with
 | nil=>intro cs cs' h;injection h with h;subst h;exact .nil
 | cons p ps ih =>
  intro cs cs' h
  obtain ⟨i,x⟩:=p
  unfold filE at h
  split at h<;>first|(cases h;done)|skip
  rename_i a off sz hx hp
  split at h<;>first|(cases h;done)|skip
  rename_i hg
  rw [Bool.and_eq_true] at hg
  split at h<;>first|(cases h;done)|skip
  rename_i cs1 hs
  exact .cons hx hp hg.1 (Nat.eq_of_beq_eq_true hg.2) (spE_ok hs) (ih h)
def eBuild (t:TypeId) (parts:List (Nat × Operand)):Option Res:=match Y.tab t with
 | some (.st fs,_,_,zero)=>match filE E (fun i=>(fs[i]?).map fun f=>(f.1,f.2.1)) zero parts with
  | some cs=>some ⟨[],[],.agg cs,L⟩
  | none=>none
 | some (.arr _ e,_,_,zero)=>match Y.tab e with
  | some (_,sz,_,_)=>match filE E (fun i=>some (i * sz,sz)) zero parts with
   | some cs=>some ⟨[],[],.agg cs,L⟩
   | none=>none
  | none=>none
 | _=>none
theorem eBuild_ok {t:TypeId} {parts:Array (Nat × Operand)} {R:Res} (ho:o.op=.build t parts) (h:eBuild Y E L t parts.toList=some R):LO P o E (lkH L) N R.rd R.wr R.v (lkH R.L):=by
 unfold eBuild at h
 split at h<;>first|(cases h;done)|skip
 ·rename_i fs s b zero ht
  split at h<;>first|(cases h;done)|skip
  rename_i cs hf
  injection h with h;subst h
  exact .build_st ho (Y.ok _ _ _ _ _ ht) (filE_ok E hf)
 ·rename_i n e s b zero ht
  split at h<;>first|(cases h;done)|skip
  rename_i l sz b' z' he
  split at h<;>first|(cases h;done)|skip
  rename_i cs hf
  injection h with h;subst h
  exact .build_ar ho (Y.ok _ _ _ _ _ ht) (Y.ok _ _ _ _ _ he) (filE_ok E hf)
def eBuildSlice (t:TypeId) (n:Nat) (parts:List (Nat × Operand)):Option Res:=match Y.tab t with
 | some (.sl e,_,_,_)=>match Y.tab e with
  | some (_,sz,_,z)=>match Nat.blt 0 sz && Nat.ble (n * sz) 16777216 with
   | true=>match filE E (fun i=>some (i * sz,sz)) (zerosL n z) parts with
    | some cs=>some ⟨[],[N],.osl N 0 n sz,(N,cs)::L⟩
    | none=>none
   | false=>none
  | none=>none
 | _=>none
theorem eBuildSlice_ok {t:TypeId} {n:Nat} {parts:Array (Nat × Operand)} {R:Res} (ho:o.op=.buildSlice t n parts) (h:eBuildSlice Y E L N t n parts.toList=some R):LO P o E (lkH L) N R.rd R.wr R.v (lkH R.L):=by
 unfold eBuildSlice at h
 split at h<;>first|(cases h;done)|skip
 rename_i e s b zero ht
 split at h<;>first|(cases h;done)|skip
 rename_i l sz b' z' he
 split at h<;>first|(cases h;done)|skip
 rename_i hg
 simp only [Bool.and_eq_true,Nat.blt_eq,Nat.ble_eq] at hg
 split at h<;>first|(cases h;done)|skip
 rename_i cs hf
 injection h with h;subst h
 rw [lk_cons]
 exact .buildSlice ho (Y.ok _ _ _ _ _ ht) (Y.ok _ _ _ _ _ he) hg.1 hg.2 (filE_ok E hf)
def eAlloc (t:TypeId):Option Res:=match Y.tab t with
 | some (_,_,_,z)=>some ⟨[],[N],.own N 0,(N,z)::L⟩
 | none=>none
theorem eAlloc_ok {t:TypeId} {R:Res} (ho:o.op=.alloc t) (h:eAlloc Y L N t=some R):LO P o E (lkH L) N R.rd R.wr R.v (lkH R.L):=by
 unfold eAlloc at h
 split at h<;>first|(cases h;done)|skip
 rename_i l s b z ht
 injection h with h;subst h
 rw [lk_cons]
 exact .alloc ho (Y.ok _ _ _ _ _ ht)
def eBox (x:Operand):Option Res:=match E x with
 | some a=>match a.okb with
  | true=>some ⟨[],[N],.own N 0,(N,a.cells)::L⟩
  | false=>none
 | none=>none
theorem eBox_ok {t:TypeId} {x:Operand} {R:Res} (ho:o.op=.box t x) (h:eBox E L N x=some R):LO P o E (lkH L) N R.rd R.wr R.v (lkH R.L):=by
 unfold eBox at h
 split at h<;>first|(cases h;done)|skip
 rename_i a hx
 split at h<;>first|(cases h;done)|skip
 rename_i h1
 injection h with h;subst h
 rw [lk_cons]
 exact .box ho hx h1
def bndE (x:Option Operand) (d:Nat):Option Nat:=match x with
 | none=>some d
 | some y=>match eNat E y with
  | some (_,n)=>some n
  | none=>none
theorem bndE_ok {x:Option Operand} {d n:Nat} (h:bndE E x d=some n):Bnd E x d n:=by
 unfold bndE at h
 split at h
 ·injection h with h;subst h;exact .no
 ·split at h<;>first|(cases h;done)|skip
  rename_i k n' hn
  injection h with h;subst h
  exact .at (eNat_ok E hn) rfl
def eSlice (t:TypeId) (x:Operand) (lo hi:Option Operand):Option Res:=match E x with
 | some (.osl r off len sz)=>match Y.tab t with
  | some (.sl e,_,_,_)=>match Y.tab e with
   | some (_,sz',_,_)=>match bndE E lo 0,bndE E hi len with
    | some m,some n=>match Nat.ble m n && Nat.ble n len && Nat.beq sz sz' with
     | true=>some ⟨[],[],.osl r (off + m * sz) (n - m) sz,L⟩
     | false=>none
    | _,_=>none
   | none=>none
  | _=>none
 | some (.base (.string ⟨⟨s⟩⟩))=>match Y.tab t with
  | some (.str,_,_,_)=>match bndE E lo 0,bndE E hi s.length with
   | some m,some n=>match Nat.ble m n && Nat.ble n s.length with
    | true=>some ⟨[],[],.base (.string ⟨⟨(s.drop m).take (n - m)⟩⟩),L⟩
    | false=>none
   | _,_=>none
  | _=>none
 | some .nils=>none
 | some a=>match a.isl? with
  | some (cs,len)=>match Y.tab t with
   | some (.sl e,_,_,_)=>match Y.tab e with
    | some (_,sz,_,_)=>match bndE E lo 0,bndE E hi len with
     | some m,some n=>match Nat.ble m n && Nat.ble n len with
      | true=>match tkE cs (m * sz) ((n - m) * sz) with
       | some vs=>some ⟨[],[],.isl vs (n - m),L⟩
       | none=>none
      | false=>none
     | _,_=>none
    | none=>none
   | _=>none
  | none=>none
 | none=>none
theorem eSlice_ok {t:TypeId} {x:Operand} {lo hi:Option Operand} {R:Res} (ho:o.op=.slice t x lo hi none) (h:eSlice Y E L t x lo hi=some R):LO P o E (lkH L) N R.rd R.wr R.v (lkH R.L):=by
 unfold eSlice at h
 split at h<;>first|(cases h;done)|skip
 ·rename_i r off len sz hx
  split at h<;>first|(cases h;done)|skip
  rename_i e s b z ht
  split at h<;>first|(cases h;done)|skip
  rename_i l sz' b' z' he
  split at h<;>first|(cases h;done)|skip
  rename_i m n hm hn
  split at h<;>first|(cases h;done)|skip
  rename_i hg
  simp only [Bool.and_eq_true,Nat.ble_eq] at hg
  have:=Nat.eq_of_beq_eq_true hg.2
  subst this
  injection h with h;subst h
  exact .slice ho hx (bndE_ok E hm) (bndE_ok E hn) hg.1.1 hg.1.2 (Y.ok _ _ _ _ _ ht) (Y.ok _ _ _ _ _ he)
 ·rename_i s hx
  split at h<;>first|(cases h;done)|skip
  rename_i s0 b z ht
  split at h<;>first|(cases h;done)|skip
  rename_i m n hm hn
  split at h<;>first|(cases h;done)|skip
  rename_i hg
  simp only [Bool.and_eq_true,Nat.ble_eq] at hg
  injection h with h;subst h
  have:=LO.slice_str (P:=P) (H:=lkH L) (f:=N) ho hx (bndE_ok E hm) (bndE_ok E hn) hg.1 hg.2 (Y.ok _ _ _ _ _ ht)
  have e:(⟨⟨s⟩⟩:ByteArray).extract m n=⟨⟨(s.drop m).take (n - m)⟩⟩:=by
   apply ByteArray.ext
   rw [ByteArray.data_extract]
   apply Array.toList_inj.1
   simp
  rw [e] at this
  exact this
 ·rename_i a _ _ _ hx
  split at h<;>first|(cases h;done)|skip
  rename_i cs len ha
  split at h<;>first|(cases h;done)|skip
  rename_i e s b z ht
  split at h<;>first|(cases h;done)|skip
  rename_i l sz b' z' he
  split at h<;>first|(cases h;done)|skip
  rename_i m n hm hn
  split at h<;>first|(cases h;done)|skip
  rename_i hg
  simp only [Bool.and_eq_true,Nat.ble_eq] at hg
  split at h<;>first|(cases h;done)|skip
  rename_i vs hv
  injection h with h;subst h
  exact .slice_isl ho hx ha (bndE_ok E hm) (bndE_ok E hn) hg.1 hg.2 (Y.ok _ _ _ _ _ ht) (Y.ok _ _ _ _ _ he) (tkE_ok hv)
def eMakeSlice (t:TypeId) (x y:Operand):Option Res:=match eNat E x,eNat E y with
 | some (_,n),some (_,m)=>match Y.tab t with
  | some (.sl e,_,_,_)=>match Y.tab e with
   | some (_,sz,by',z)=>match Nat.blt 0 sz && Nat.ble n m && Nat.ble m 1000000 && Nat.ble (m * by') 281474976710656 with
    | true=>some ⟨[],[N],.osl N 0 n sz,(N,zerosL m z)::L⟩
    | false=>none
   | none=>none
  | _=>none
 | _,_=>none
theorem eMakeSlice_ok {t:TypeId} {x y:Operand} {R:Res} (ho:o.op=.makeSlice t x y) (h:eMakeSlice Y E L N t x y=some R):LO P o E (lkH L) N R.rd R.wr R.v (lkH R.L):=by
 unfold eMakeSlice at h
 split at h<;>first|(cases h;done)|skip
 rename_i k n k' m hx hy
 split at h<;>first|(cases h;done)|skip
 rename_i e s b z ht
 split at h<;>first|(cases h;done)|skip
 rename_i l sz by' z' he
 split at h<;>first|(cases h;done)|skip
 rename_i hg
 simp only [Bool.and_eq_true,Nat.blt_eq,Nat.ble_eq] at hg
 injection h with h;subst h
 rw [lk_cons]
 exact .makeSlice ho (eNat_ok E hx) (eNat_ok E hy) rfl rfl (Y.ok _ _ _ _ _ ht) (Y.ok _ _ _ _ _ he) hg.1.1.1 hg.1.1.2 (by omega) hg.2
def eConv (s t:TypeId) (x:Operand):Option Res:=match E x with
 | some (.base (.int _ i))=>match Y.tab s,Y.tab t with
  | some _,some (.int k',_,_,_)=>some ⟨[],[],.base (.int k' (k'.wrap i)),L⟩
  | _,_=>none
 | _=>none
theorem eConv_ok {s t:TypeId} {x:Operand} {R:Res} (ho:o.op=.convert s t x) (h:eConv Y E L s t x=some R):LO P o E (lkH L) N R.rd R.wr R.v (lkH R.L):=by
 unfold eConv at h
 split at h<;>first|(cases h;done)|skip
 rename_i k i hx
 split at h<;>first|(cases h;done)|skip
 rename_i p k' s0 b z hs ht
 obtain ⟨l1,l2,l3,l4⟩:=p
 injection h with h;subst h
 exact .conv ho hx (Y.ok _ _ _ _ _ hs) (Y.ok _ _ _ _ _ ht)
end
end Go.Proofs.YtbfnfgpjgdbmeaaGreatDoor
