/-
  Operations that take several names each, and regions of them.
-/
import Derived.Test.YtbfnfgpjgdbmeaaGreatDoorMab
namespace Go.Proofs.YtbfnfgpjgdbmeaaGreatDoor
open Go.RowKit
def LOM (P:Program) (o:Oper) (E:Operand→Option AV) (H:Hp) (N c:Nat) (rd wr:List Nat) (v:AV) (H':Hp):Prop :=
 (∀ r,r ∉ wr→H' r=H r)∧∀ E' K,(∀ x,x∈o.op.operands→E' x=E x)→(∀ r,r∈rd∨r∈wr→K r=H r)→SOpM P o E' N c K v (ovr K wr H')
theorem LO.toM {P:Program} {o:Oper} {E:Operand→Option AV} {H:Hp} {N c:Nat} {rd wr:List Nat} {v:AV} {H':Hp} (h:LO P o E H N rd wr v H') (hc:0 < c):LOM P o E H N c rd wr v H' :=
 ⟨h.1,fun E' K hE hK X φ w ρ hR hst hf=>(h.2 E' K hE hK X φ w ρ hR hst (hf N (Nat.le_refl _) (by omega))).mono fun x w' ⟨X',φ',g1,g2,g3⟩ =>
  ⟨X',φ',⟨g1.os,g1.tape,g1.output,g1.size,g1.same,g1.bs,g1.xs,g1.xk,fun r hr=>g1.ph r (fun e=>hr ⟨by omega,by omega⟩),g1.lv⟩,g2,g3⟩⟩
inductive RWN (P:Program) (ops:Array Oper) (m c:Nat) (K:Tp→Hp→List (List Nat × List Nat)→Prop):Nat→List Oper→Tp→Hp→List (List Nat × List Nat)→Prop
 | nil {i:Nat} {T:Tp} {H:Hp} {acc:List (List Nat × List Nat)} (h:K T H acc):RWN P ops m c K i [] T H acc
 | op {i:Nat} {o:Oper} {l:List Oper} {T:Tp} {H H':Hp} {acc:List (List Nat × List Nat)} {rd wr:List Nat} {v:AV} (hg:runsT ops T o=some true) (h:LOM P o (ev T) H (m + i * c) c rd wr v H')
  (k:RWN P ops m c K (i + 1) l (putT T o.dst v) H' ((rd,wr)::acc)):RWN P ops m c K i (o::l) T H acc
 | skip {i:Nat} {o:Oper} {l:List Oper} {T:Tp} {H:Hp} {acc:List (List Nat × List Nat)} (hg:runsT ops T o=some false)
  (k:RWN P ops m c K (i + 1) l (putT T o.dst (.base undef)) H (([],[])::acc)):RWN P ops m c K i (o::l) T H acc
def StepM (P:Program) (ops:Array Oper) (m c i:Nat) (o:Oper) (T:Tp) (H:Hp) (rd wr:List Nat) (T':Tp) (H':Hp):Prop :=
 (runsT ops T o=some true∧∃ v,LOM P o (ev T) H (m + i * c) c rd wr v H'∧T'=putT T o.dst v) ∨
 (runsT ops T o=some false∧T'=putT T o.dst (.base undef)∧H'=H∧rd=[]∧wr=[])
theorem RWN.trace {P:Program} {ops:Array Oper} {m c:Nat} {K:Tp→Hp→List (List Nat × List Nat)→Prop}:∀ {i:Nat} {l:List Oper} {T:Tp} {H:Hp} {acc:List (List Nat × List Nat)},RWN P ops m c K i l T H acc →
 ∃ (Ts:Nat→Tp) (Hs:Nat→Hp) (rds wrs:Nat→List Nat),Ts i=T∧Hs i=H∧(∀ j o,l[j]?=some o→StepM P ops m c (i + j) o (Ts (i + j)) (Hs (i + j)) (rds (i + j)) (wrs (i + j)) (Ts (i + j + 1)) (Hs (i + j + 1))) ∧
  K (Ts (i + l.length)) (Hs (i + l.length)) (((List.range l.length).map fun j=>(rds (i + j),wrs (i + j))).reverse++acc):=by
 intro i l T H acc h
 have ext:∀ {i:Nat} {o:Oper} {l:List Oper} {T T1:Tp} {H H1:Hp} {acc:List (List Nat × List Nat)} {rd wr:List Nat},StepM P ops m c i o T H rd wr T1 H1 →
  (∃ (Ts:Nat→Tp) (Hs:Nat→Hp) (rds wrs:Nat→List Nat),Ts (i + 1)=T1∧Hs (i + 1)=H1∧(∀ j o,l[j]?=some o→StepM P ops m c (i + 1 + j) o (Ts (i + 1 + j)) (Hs (i + 1 + j)) (rds (i + 1 + j)) (wrs (i + 1 + j)) (Ts (i + 1 + j + 1)) (Hs (i + 1 + j + 1))) ∧
   K (Ts (i + 1 + l.length)) (Hs (i + 1 + l.length)) (((List.range l.length).map fun j=>(rds (i + 1 + j),wrs (i + 1 + j))).reverse++((rd,wr)::acc))) →
  ∃ (Ts:Nat→Tp) (Hs:Nat→Hp) (rds wrs:Nat→List Nat),Ts i=T∧Hs i=H∧(∀ j p,(o::l)[j]?=some p→StepM P ops m c (i + j) p (Ts (i + j)) (Hs (i + j)) (rds (i + j)) (wrs (i + j)) (Ts (i + j + 1)) (Hs (i + j + 1))) ∧
   K (Ts (i + (o::l).length)) (Hs (i + (o::l).length)) (((List.range (o::l).length).map fun j=>(rds (i + j),wrs (i + j))).reverse++acc):=by
  intro i o l T T1 H H1 acc rd wr hs ⟨Ts,Hs,rds,wrs,h1,h2,h3,h4⟩
  refine ⟨fun j=>if j=i then T else Ts j,fun j=>if j=i then H else Hs j,fun j=>if j=i then rd else rds j,fun j=>if j=i then wr else wrs j,if_pos rfl,if_pos rfl,fun j p hj=>?_,?_⟩
  ·cases j with
   | zero =>
    simp at hj
    subst hj
    simp only [Nat.add_zero,if_true,show ¬ (i + 1=i) by omega,if_false]
    rw [h1,h2]
    exact hs
   | succ j =>
    have:=h3 j p (by simpa using hj)
    simp only [show ¬ (i + (j + 1)=i) by omega,show ¬ (i + (j + 1) + 1=i) by omega,if_false]
    rw [show i + (j + 1)=i + 1 + j from by omega]
    exact this
  ·simp only [List.length_cons,show ¬ (i + (l.length + 1)=i) by omega,if_false]
   rw [show i + (l.length + 1)=i + 1 + l.length from by omega]
   have e:((List.range (l.length + 1)).map fun j=>(if i + j=i then rd else rds (i + j),if i + j=i then wr else wrs (i + j)))=(rd,wr)::(List.range l.length).map fun j=>(rds (i + 1 + j),wrs (i + 1 + j)):=by
    rw [List.range_succ_eq_map]
    simp only [List.map_cons,List.map_map,Nat.add_zero,if_true]
    congr 1
    apply List.map_congr_left
    intro j _
    simp only [Function.comp,Nat.succ_eq_add_one,show ¬ (i + (j + 1)=i) by omega,if_false]
    rw [show i + (j + 1)=i + 1 + j from by omega]
   rw [e]
   simpa using h4
 induction h with
 | nil h=>exact ⟨fun _=>_,fun _=>_,fun _=>[],fun _=>[],rfl,rfl,fun j o hj=>by simp at hj,by simpa using h⟩
 | op hg h _ ih=>exact ext (.inl ⟨hg,_,h,rfl⟩) ih
 | skip hg _ ih=>exact ext (.inr ⟨hg,rfl,rfl,rfl,rfl⟩) ih
section
variable {P:Program} {B:Base} {n m:Nat}
theorem region_seqN {ops:Array Oper} {id c:Nat} {Ts:Nat→Tp} {Hs:Nat→Hp} {rds wrs:Nat→List Nat} (hk:B.k≤m) (hdl:dstsLt ops.toList n=true)
 (hstep:∀ j o,ops.toList[j]?=some o→StepM P ops m c j o (Ts j) (Hs j) (rds j) (wrs j) (Ts (j + 1)) (Hs (j + 1))) {a:Act} {w:World} (hs:Sim B n m (Ts 0) (Hs 0) a w) :
 (Code.region id ops false).wp P (fun e a' w'=>e=.normal∧Sim B n (m + ops.size * c) (Ts ops.size) (Hs ops.size) a' w') a w:=by
 have key:∀ d j a w,j + d=ops.size→SimF B n (fun r=>m + j * c≤r) (Ts j) (Hs j) a w→wpOps P ops (fun e a' w'=>e=.normal∧Sim B n (m + ops.size * c) (Ts ops.size) (Hs ops.size) a' w') (List.range' j d) a w:=by
  intro d
  induction d with
  | zero =>
   intro j a w hj h
   obtain rfl:j=ops.size:=by omega
   exact ⟨rfl,by omega,h⟩
  | succ d ih =>
   intro j a w hj h
   rw [List.range'_succ,wpOps_cons]
   obtain ⟨o,ho⟩:∃ o,ops[j]?=some o:=⟨ops[j],by rw [Array.getElem?_eq_getElem]⟩
   have hol:ops.toList[j]?=some o:=by simpa using ho
   have hd:=dstsLt_at hdl hol
   refine wpOp_step ho fun K' hK'=>?_
   rcases hstep j o hol with ⟨hg,v,hLO,hT⟩|⟨hg,hT,hH,_⟩
   ·rw [h.wanted hg,if_pos rfl]
    have hsop:=hLO.2 (ev (Ts j)) (Hs j) (fun _ _=>rfl) (fun _ _=>rfl)
    have hovr:ovr (Hs j) (wrs j) (Hs (j + 1))=Hs (j + 1):=by
     funext r
     unfold ovr
     split
     ·rfl
     ·rename_i hr;exact (hLO.1 r hr).symm
    rw [hovr] at hsop
    refine h.stepM hsop (fun r r1 _=>r1) (by omega) hd fun a' w' hs'=>hK' _ _ (ih (j + 1) a' w' (by omega) ?_)
    rw [hT]
    obtain ⟨X,φ,h1,h2,h3,h4,h5,h6⟩:=hs'
    exact ⟨X,φ,h1,h2,h3,h4,h5,fun r hr=>h6 r (by rw [Nat.succ_mul] at hr;exact ⟨by omega,by omega⟩)⟩
   ·rw [h.wanted hg,if_neg (by decide)]
    refine hK' _ _ (ih (j + 1) _ w (by omega) ?_)
    rw [hT,hH]
    obtain ⟨X,φ,h1,h2,h3,h4,h5,h6⟩:=h.skip hd
    exact ⟨X,φ,h1,h2,h3,h4,h5,fun r hr=>h6 r (by rw [Nat.succ_mul] at hr;omega)⟩
 have:=key ops.size 0 a w (by omega) (by rw [Nat.zero_mul,Nat.add_zero];exact hs.2)
 rw [← List.range_eq_range'] at this
 exact wp_region this
theorem region_anyN {ops:Array Oper} {id c:Nat} {Ts:Nat→Tp} {Hs:Nat→Hp} {rds wrs:Nat→List Nat} (hm:P.follows .mixedOrders=true) (hdl:dstsLt ops.toList n=true)
 (hstep:∀ j o,ops.toList[j]?=some o→StepM P ops m c j o (Ts j) (Hs j) (rds j) (wrs j) (Ts (j + 1)) (Hs (j + 1))) (hind:indep ops ((List.range ops.size).map fun j=>(rds j,wrs j)).reverse=true)
 {a:Act} {w:World} (hs:Sim B n m (Ts 0) (Hs 0) a w) :
 (Code.region id ops true).wp P (fun e a' w'=>e=.normal∧Sim B n (m + ops.size * c) (Ts ops.size) (Hs ops.size) a' w') a w:=by
 unfold indep at hind
 simp only [Bool.and_eq_true,List.reverse_reverse] at hind
 obtain ⟨hed,hia⟩:=hind
 let WT:Nat→Nat→Bool:=fun t j=>match ops[j]? with
  | some o=>o.dst == some t
  | none=>false
 let WH:Nat→Nat→Bool:=fun r j=>(wrs j).contains r
 have hmask:=masks_ok ops.toList ops.toList [] [] rfl rfl (fun j mk h=>by simp at h)
 -- earlier before later
 have key:∀ (i j:Nat) (p q:Oper),i < j→ops[i]?=some p→ops[j]?=some q→clashO ops p q (rds i,wrs i) (rds j,wrs j)=true→∀ S,ClosedL ops.toList S→(∀ e∈bEdges q,S e.on=true)→S i=true:=by
  intro i j p q hij hp hq hc S hS hd
  have hj:j < ops.size:=(Array.getElem?_eq_some_iff.1 hq).1
  have hi:i < ops.size:=by omega
  obtain ⟨mk,hmk⟩:∃ mk,(masks ops.toList [])[j]?=some mk:=by
   have hl:j < (masks ops.toList []).length:=by rw [masks_len];simpa using hj
   exact ⟨_,List.getElem?_eq_getElem hl⟩
  have h1:=indepAll_at (j:=j) (o:=q) (fo:=(rds j,wrs j)) (mk:=mk) hia (by simpa using hq) (by simp [hj]) hmk
  rw [Nat.zero_add] at h1
  have h2:=indepOne_at (i:=i) (p:=p) (fp:=(rds i,wrs i)) h1 (by rw [List.getElem?_take];simp [hij];exact hp) (by rw [List.getElem?_take];simp [hij,hi]) hc
  rw [Nat.zero_add] at h2
  exact hmask j mk hmk S hS q (by simpa using hq) hd i h2
 have hTw:∀ t j,j < ops.size→WT t j=false→Ts (j + 1) t=Ts j t:=by
  intro t j hj hw
  obtain ⟨o,ho⟩:∃ o,ops[j]?=some o:=⟨ops[j],by rw [Array.getElem?_eq_getElem]⟩
  have hne:o.dst≠some t:=by
   intro e
   simp only [WT,ho,e] at hw
   simp at hw
  rcases hstep j o (by simpa using ho) with ⟨_,v,_,hT⟩|⟨_,hT,_⟩<;>rw [hT]<;>(cases hd:o.dst with
   | none=>rfl
   | some d=>exact up_ne (fun e=>hne (by rw [hd,e])))
 have hHw:∀ r j,j < ops.size→WH r j=false→Hs (j + 1) r=Hs j r:=by
  intro r j hj hw
  obtain ⟨o,ho⟩:∃ o,ops[j]?=some o:=⟨ops[j],by rw [Array.getElem?_eq_getElem]⟩
  rcases hstep j o (by simpa using ho) with ⟨_,v,hLO,_⟩|⟨_,_,hH,_⟩
  ·exact hLO.1 r (by simpa [WH] using hw)
  ·rw [hH]
 let Tc:Array Bool→Tp:=fun ld t=>Ts (lastW (fun j=>ld.getD j false) (WT t) ops.size) t
 let Hc:Array Bool→Hp:=fun ld r=>Hs (lastW (fun j=>ld.getD j false) (WH r) ops.size) r
 let J:Array Bool→Act→World→Prop:=fun ld a w=>SimF B n (fun r=>m + ops.size * c≤r∨∃ i,i < ops.size∧(m + i * c≤r∧r < m + i * c + c)∧ld.getD i false=false) (Tc ld) (Hc ld) a w
 have hWT:∀ t j,WT t j=true→∃ p,ops[j]?=some p∧p.dst=some t:=by
  intro t j h
  simp only [WT] at h
  cases hp:ops[j]? with
  | none=>rw [hp] at h;cases h
  | some p=>rw [hp] at h;exact ⟨p,rfl,by simpa using h⟩
 have h0:∀ i,(Array.replicate ops.size false).getD i false=false:=fun i=>by
  simp only [Array.getD_eq_getD_getElem?,Array.getElem?_replicate]
  split<;>rfl
 refine wp_region_any hm (wpAny_J0 (P:=P) (ops:=ops) J hed ?_ ?_ ops.size (Array.replicate ops.size false) a _ (by simp) (by simp) (fun i o _ hi=>by simp only [h0] at hi;cases hi) ?_)
 ·-- a step
  intro ld a w i o hJ hsz hcl ho hil hdep K hK
  have hi:i < ops.size:=(Array.getElem?_eq_some_iff.1 ho).1
  have hol:ops.toList[i]?=some o:=by simpa using ho
  have hd:=dstsLt_at hdl hol
  -- no later one has written what this one touches
  have lateT:∀ t,(t∈slotsR ops o∨o.dst=some t)→∀ j,i≤j→j < ops.size→ld.getD j false=true→WT t j=false:=by
   intro t ht j hij hj hlj
   by_cases hji:j=i
   ·subst hji;rw [hil] at hlj;cases hlj
   ·cases hw:WT t j with
    | false=>rfl
    | true =>
     exfalso
     obtain ⟨p,hp,hpt⟩:=hWT t j hw
     have hc:clashO ops o p (rds i,wrs i) (rds j,wrs j)=true:=by
      unfold clashO
      rw [clash_of (x:=t) (by
       rcases ht with ht|ht
       ·exact .inr ⟨ht,by simp [slotsW,hpt]⟩
       ·exact .inl ⟨by simp [slotsW,ht],.inr (by simp [slotsW,hpt])⟩)]
      rfl
     have:=key i j o p (by omega) ho hp hc _ hcl (hcl j p (by simpa using hp) hlj)
     rw [hil] at this
     cases this
  have lateH:∀ r,(r∈rds i∨r∈wrs i)→∀ j,i≤j→j < ops.size→ld.getD j false=true→WH r j=false:=by
   intro r hr j hij hj hlj
   by_cases hji:j=i
   ·subst hji;rw [hil] at hlj;cases hlj
   ·cases hw:WH r j with
    | false=>rfl
    | true =>
     exfalso
     obtain ⟨p,hp⟩:∃ p,ops[j]?=some p:=⟨ops[j],by rw [Array.getElem?_eq_getElem]⟩
     have hwr:r∈wrs j:=by simpa [WH] using hw
     have hc:clashO ops o p (rds i,wrs i) (rds j,wrs j)=true:=by
      unfold clashO
      rw [clash_of (x:=r) (r1:=rds i) (w1:=wrs i) (r2:=rds j) (w2:=wrs j) (by
       rcases hr with hr|hr
       ·exact .inr ⟨hr,hwr⟩
       ·exact .inl ⟨hr,.inr hwr⟩)]
      simp
     have:=key i j o p (by omega) ho hp hc _ hcl (hcl j p (by simpa using hp) hlj)
     rw [hil] at this
     cases this
  have readT:∀ t,(t∈slotsR ops o∨o.dst=some t)→Tc ld t=Ts i t:=by
   intro t ht
   refine lastW_read (fun j=>ld.getD j false) (WT t) (fun j=>Ts j t) ops.size i (hTw t) (by omega) (lateT t ht) fun j hj hw=>?_
   obtain ⟨p,hp,hpt⟩:=hWT t j hw
   refine key j i p o hj hp ho ?_ _ hcl hdep
   unfold clashO
   rw [clash_of (x:=t) (.inl ⟨by simp [slotsW,hpt],by
    rcases ht with ht|ht
    ·exact .inl ht
    ·exact .inr (by simp [slotsW,ht])⟩)]
   rfl
  have readH:∀ r,(r∈rds i∨r∈wrs i)→Hc ld r=Hs i r:=by
   intro r hr
   refine lastW_read (fun j=>ld.getD j false) (WH r) (fun j=>Hs j r) ops.size i (hHw r) (by omega) (lateH r hr) fun j hj hw=>?_
   obtain ⟨p,hp⟩:∃ p,ops[j]?=some p:=⟨ops[j]'(by omega),by rw [Array.getElem?_eq_getElem]⟩
   refine key j i p o hj hp ho ?_ _ hcl hdep
   have hwr:r∈wrs j:=by simpa [WH] using hw
   unfold clashO
   rw [clash_of (x:=r) (r1:=rds j) (w1:=wrs j) (r2:=rds i) (w2:=wrs i) (.inl ⟨hwr,hr⟩)]
   simp
  have hset:∀ j,j≠i→(fun j=>(ld.setIfInBounds i true).getD j false) j=(fun j=>ld.getD j false) j:=fun j hj=>lget_set_ne hj
  have hseti:(fun j=>(ld.setIfInBounds i true).getD j false) i=true:=lget_set_eq (by omega)
  have Tset:∀ v,Ts (i + 1)=putT (Ts i) o.dst v→Tc (ld.setIfInBounds i true)=putT (Tc ld) o.dst v:=by
   intro v hT
   funext t
   by_cases ht:o.dst=some t
   ·have hWi:WT t i=true:=by simp [WT,ho,ht]
    have:=lastW_new (S:=fun j=>ld.getD j false) (S':=fun j=>(ld.setIfInBounds i true).getD j false) (W:=WT t) (n:=ops.size) hi hseti hWi hset (fun j hij hj hS=>lateT t (.inr ht) j (by omega) hj hS)
    show Ts (lastW _ _ _) t=_
    rw [this,hT,ht]
    simp only [putT,up_at]
   ·have hWi:WT t i=false:=by simp [WT,ho,ht]
    have:=lastW_same (S:=fun j=>ld.getD j false) (S':=fun j=>(ld.setIfInBounds i true).getD j false) (W:=WT t) (n:=ops.size) hWi hset
    show Ts (lastW _ _ _) t=_
    rw [this]
    cases hdd:o.dst with
    | none=>rfl
    | some d=>exact (up_ne (fun e=>ht (by rw [hdd,e]))).symm
  have Hset:Hc (ld.setIfInBounds i true)=ovr (Hc ld) (wrs i) (Hs (i + 1)):=by
   funext r
   unfold ovr
   by_cases hr:r∈wrs i
   ·have hWi:WH r i=true:=by simp [WH,hr]
    have:=lastW_new (S:=fun j=>ld.getD j false) (S':=fun j=>(ld.setIfInBounds i true).getD j false) (W:=WH r) (n:=ops.size) hi hseti hWi hset (fun j hij hj hS=>lateH r (.inr hr) j (by omega) hj hS)
    rw [if_pos hr]
    show Hs (lastW _ _ _) r=_
    rw [this]
   ·have hWi:WH r i=false:=by simp [WH,hr]
    have:=lastW_same (S:=fun j=>ld.getD j false) (S':=fun j=>(ld.setIfInBounds i true).getD j false) (W:=WH r) (n:=ops.size) hWi hset
    rw [if_neg hr]
    show Hs (lastW _ _ _) r=_
    rw [this]
  have hFr:∀ r,(m + ops.size * c≤r∨∃ i',i' < ops.size∧(m + i' * c≤r∧r < m + i' * c + c)∧(ld.setIfInBounds i true).getD i' false=false)→(m + ops.size * c≤r∨∃ i',i' < ops.size∧(m + i' * c≤r∧r < m + i' * c + c)∧ld.getD i' false=false)∧¬ (m + i * c≤r∧r < m + i * c + c):=by
   intro r hr
   rcases hr with hr|⟨i',hi',hr',hl⟩
   ·have h1:(i + 1) * c≤ops.size * c:=Nat.mul_le_mul_right c hi
    rw [Nat.succ_mul] at h1
    exact ⟨.inl hr,by omega⟩
   ·have hne:i'≠i:=fun e=>by rw [e] at hl;rw [lget_set_eq (by omega)] at hl;cases hl
    rw [lget_set_ne hne] at hl
    refine ⟨.inr ⟨i',hi',hr',hl⟩,fun h1=>?_⟩
    rcases Nat.lt_or_gt_of_ne hne with h2|h2
    ·have h3:(i' + 1) * c≤i * c:=Nat.mul_le_mul_right c h2
     rw [Nat.succ_mul] at h3
     omega
    ·have h3:(i + 1) * c≤i' * c:=Nat.mul_le_mul_right c h2
     rw [Nat.succ_mul] at h3
     omega
  have hwant:∀ b,runsT ops (Ts i) o=some b→Region.wanted o (yielded ops a.tmps)=b:=fun b hb=>hJ.wanted (by rw [runsT_congr fun t ht=>readT t (.inl ht)];exact hb)
  rcases hstep i o hol with ⟨hg,v,hLO,hT⟩|⟨hg,hT,hH,hrd,hwr⟩
  ·rw [hwant _ hg,if_pos rfl]
   have hsop:=hLO.2 (ev (Tc ld)) (Hc ld) (fun x hx=>by
    cases x with
    | tmp t=>exact readT t (.inl (by simp only [slotsR,List.mem_append,List.mem_filterMap];exact .inl ⟨.tmp t,by simpa using hx,rfl⟩))
    | const u=>rw [ev_const,ev_const]
    | _=>rfl) readH
   refine hJ.stepM hsop (fun r r1 r2=>.inr ⟨i,hi,⟨r1,r2⟩,hil⟩) (by have:=hs.1;omega) hd fun a' w' hs'=>hK _ _ ?_
   show SimF B n _ (Tc (ld.setIfInBounds i true)) (Hc (ld.setIfInBounds i true)) a' w'
   rw [Tset v hT,Hset]
   obtain ⟨X,φ,h1,h2,h3,h4,h5,h6⟩:=hs'
   exact ⟨X,φ,h1,h2,h3,h4,h5,fun r hr=>h6 r (hFr r hr)⟩
  ·rw [hwant _ hg,if_neg (by decide)]
   refine hK _ _ ?_
   show SimF B n _ (Tc (ld.setIfInBounds i true)) (Hc (ld.setIfInBounds i true)) _ w
   rw [Tset _ hT,Hset,hwr,ovr_nil]
   obtain ⟨X,φ,h1,h2,h3,h4,h5,h6⟩:=SimF.skip hJ hd
   exact ⟨X,φ,h1,h2,h3,h4,h5,fun r hr=>h6 r (hFr r hr).1⟩
 ·-- the end
  intro ld a w hJ hsz hall
  refine ⟨rfl,by have:=hs.1;omega,?_⟩
  have hT:Tc ld=Ts ops.size:=by
   funext t
   exact lastW_read (fun j=>ld.getD j false) (WT t) (fun j=>Ts j t) ops.size ops.size (hTw t) (Nat.le_refl _) (fun j h1 h2=>by omega) (fun j hj _=>hall j hj)
  have hH:Hc ld=Hs ops.size:=by
   funext r
   exact lastW_read (fun j=>ld.getD j false) (WH r) (fun j=>Hs j r) ops.size ops.size (hHw r) (Nat.le_refl _) (fun j h1 h2=>by omega) (fun j hj _=>hall j hj)
  rw [← hT,← hH]
  obtain ⟨X,φ,h1,h2,h3,h4,h5,h6⟩:=hJ
  exact ⟨X,φ,h1,h2,h3,h4,h5,fun r hr=>h6 r (.inl hr)⟩
 ·-- the start
  have hT:Tc (Array.replicate ops.size false)=Ts 0:=by
   funext t
   show Ts (lastW _ _ _) t=_
   rw [lastW_none h0]
  have hH:Hc (Array.replicate ops.size false)=Hs 0:=by
   funext r
   show Hs (lastW _ _ _) r=_
   rw [lastW_none h0]
  show SimF B n _ (Tc _) (Hc _) a _
  rw [hT,hH]
  obtain ⟨X,φ,h1,h2,h3,h4,h5,h6⟩:=hs.2
  refine ⟨X,φ,⟨h1.os,h1.tape,h1.output,h1.size,h1.same,h1.bs,h1.xs,h1.xk,h1.ph,h1.lv⟩,h2,h3,?_,fun t v ht=>?_,fun r hr=>h6 r (by rcases hr with hr|⟨i,_,hr,_⟩<;>omega)⟩
  ·exact h4.heap rfl
  ·exact (h5 t v ht).keep (Nat.le_refl _) (fun _ _ _=>rfl) (fun _ _=>rfl) (fun _ _ h=>h) (fun _ _ h=>h)
end
theorem W.regionN {P:Program} {k n m:Nat} {T:Tp} {H:Hp} {K:Exit→Nat→Tp→Hp→Prop} {ops:Array Oper} {id:Nat} {d:Bool} (c:Nat) (hmx:P.follows .mixedOrders=true) (hdl:dstsLt ops.toList n=true)
 (h:RWN P ops m c (fun T' H' acc=>(d=true→indep ops acc=true)∧K .normal (m + ops.size * c) T' H') 0 ops.toList T H []):W P k n (.region id ops d) m T H K:=by
 obtain ⟨Ts,Hs,rds,wrs,h1,h2,h3,h4⟩:=h.trace
 simp only [Nat.zero_add,Array.length_toList,List.append_nil] at h3 h4
 refine ⟨.normal,_,Ts ops.size,Hs ops.size,h4.2,fun B hB a w hsim=>?_⟩
 subst h1 h2
 cases d with
 | false=>exact region_seqN (rds:=rds) (wrs:=wrs) (by have:=hsim.1;omega) hdl h3 hsim
 | true=>exact region_anyN (rds:=rds) (wrs:=wrs) hmx hdl h3 (h4.1 rfl) hsim
end Go.Proofs.YtbfnfgpjgdbmeaaGreatDoor
