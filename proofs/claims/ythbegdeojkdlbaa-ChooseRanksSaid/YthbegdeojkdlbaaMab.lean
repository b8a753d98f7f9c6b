/-
  New names, things given up, tables of types, and what a law's call means for its world. Calls that hand back a new slice which may be written, and the same slice only read. Branches that meet again: what follows is walked once. Slices of arrays that are only read from then on; nil slices; a new row by append of make. Regions whose guards are not known: both ways; loops and joins that keep what they do not change. What comes in, as the abstract machine sees it: opened by its type. Copying into a slice; slices with a bound on their room; rows of bytes that are not known yet. Copying nothing; a new row of bytes that are not known. A call that takes over a slice and hands a new one back. An empty slice is one that is only read. A block that is only read from now on; a slice of an array that is only read. Appending zeros to what is owned. A slice that is only read, as an array. A call that is handed one block to write, and hands a new one back. Appending zeros, perhaps none, to what is owned. Operations on a listed variable. Maps, as functions from keys: made, asked, written. Sets as maps to true; keys that are strings, arrays, structs. Calls that are handed several blocks to write; the bytes of a text. A call that hands back a new slice with a number. Parts of a string; a call of a function that is handed over as a value. A call that is handed a map and changes it. Functions that hold on to what they were made over: made, and called. Comparing a slice with nil, where it matters whether an empty slice is nil.
-/
import Derived.Test.YthbegdeojkdlbaaMaa
import Derived.Lib.AppendZerosOnto
import Derived.ProofKit
import Derived.OpenShut
import Derived.Lib.MakeNoZero
import Derived.Laws.Externs
import Derived.Maps.Keyed
import Derived.Lib.LazyBuf
namespace Go.Proofs.Ythbegdeojkdlbaa
open Go.RowKit
abbrev TyRow:=Lay × Nat × Nat × List AV
def lkT:List (Nat × TyRow)→Nat→Option TyRow
 | [],_=>none
 | (k,v)::l,t=>match Nat.beq k t with
  | true=>some v
  | false=>lkT l t
theorem all_mt {α:Type} {p:Nat→α→Prop}:∀ t v,(mt:Nat→Option α) t=some v→p t v:=fun t v h=>by cases h
theorem all_up {α:Type} {p:Nat→α→Prop} {F:Nat→Option α} {k:Nat} {a:α} (h0:p k a) (h:∀ t v,F t=some v→p t v):∀ t v,up F k (some a) t=some v→p t v:=by
 intro t v ht
 by_cases e:t=k
 ·subst e;rw [up_at] at ht;injection ht with ht;subst ht;exact h0
 ·rw [up_ne e] at ht;exact h t v ht
theorem frK_one (H:Hp) (r:Nat):frK H [r]=up H r none:=by
 funext x
 by_cases h:x=r
 ·subst h;simp [frK,up_at]
 ·simp [frK,h,up_ne h]
section
variable {P:Program} {k n m:Nat} {T:Tp} {H:Hp} {K:Exit→Nat→Tp→Hp→Prop} {c:Code}
theorem W.freeze (fr:List Nat) {T':Tp} (hT:∀ t v,T' t=some v→∃ u,T t=some u∧(u=v∨Fz H fr u v)) (h:W P k n c m T' (frK H fr) K):W P k n c m T H K:=by
 obtain ⟨e,m2,T2,H2,h1,h2⟩:=h
 refine ⟨e,m2,T2,H2,h1,fun B hB a w hs=>h2 B hB a w ?_⟩
 obtain ⟨h0,X,φ,g1,g2,g3,g4,g5,g6⟩:=hs
 refine ⟨h0,frX X H φ fr,φ,g1.trans (Nxt.frz (f:=fun _=>False)) (fun _ h=>h.elim),g2,g3,g4.frz,fun t v ht=>?_,g6⟩
 obtain ⟨u,hu,rfl|hf⟩:=hT t v ht
 ·exact (g5 t u hu).frz
 ·exact hf.rep g4 (g5 t u hu)
theorem W.frz1 {t r off len sz:Nat} {cs vs:List AV} (ht:T t=some (.osl r off len sz)) (hr:H r=some cs) (hv:Tk cs off (len * sz) vs) (hp:vs.all AV.pure1=true) (h:W P k n c m (up T t (some (.isl vs len))) (up H r none) K):W P k n c m T H K:=by
 rw [← frK_one] at h
 refine W.freeze [r] (all_up (p:=fun t v=>∃ u,T t=some u∧(u=v∨Fz H [r] u v)) ⟨_,ht,.inr (.one (.osl (by simp) hr hv hp))⟩ fun t v h=>⟨v,h,.inl rfl⟩) h
theorem W.frzc {q j r off len sz:Nat} {cs vs qs qs':List AV} (hq:H q=some qs) (hj:qs[j]?=some (.osl r off len sz)) (hqr:q≠r) (hr:H r=some cs) (hv:Tk cs off (len * sz) vs) (hp:vs.all AV.pure1=true) (hs:Sp qs j [.isl vs len] qs') (h:W P k n c m T (up (up H r none) q (some qs')) K):W P k n c m T H K:=by
 obtain ⟨e,m2,T2,H2,h1,h2⟩:=h
 refine ⟨e,m2,T2,H2,h1,fun B hB a w hsim=>h2 B hB a w ?_⟩
 obtain ⟨h0,X,φ,g1,g2,g3,g4,g5,g6⟩:=hsim
 have hst:=g4.frz (fr:=[r])
 rw [← frK_one]
 have hq1:frK H [r] q=some qs:=by unfold frK;rw [if_neg (by simpa using hqr)];exact hq
 have hnx:=(g1.trans (Nxt.frz (fr:=[r]) (f:=fun _=>False)) (fun _ h=>h.elim))
 have hup:∀ r' c',up (frK H [r]) q (some qs') r'=some c'→∃ c0,frK H [r] r'=some c0:=fun r' c' h=>by
  by_cases e:r'=q
  ·subst e;exact ⟨qs,hq1⟩
  ·rw [up_ne e] at h;exact ⟨c',h⟩
 refine ⟨h0,frX X H φ [r],φ,{ hnx with lv:=fun r' c' b o i1 i2=>by obtain ⟨c0,i3⟩:=hup r' c' i1;exact hnx.lv r' c0 b o i3 i2 },g2,g3,⟨fun r' c' hr'=>?_,fun r1 r2 c1 c2 b o1 o2 i1 i2 i3 i4=>?_,g4.gl.sub fun _ h=>h.1⟩,fun t v ht=>(g5 t v ht).frz,g6⟩
 ·by_cases e:r'=q
  ·subst e
   rw [up_at] at hr'
   injection hr' with hr'
   subst hr'
   obtain ⟨i1,i2⟩|⟨b,o,i1,i2,i0⟩:=hst.1 r' qs hq1
   ·rw [i1] at hj;simp at hj
   ·obtain ⟨c1,el,i3,i4⟩:=i0.cells_one hj rfl
    refine .inr ⟨b,o,i1,i2,.cells c1 el i3 fun j' a' hj'=>?_⟩
    rcases hs.2.2 j' a' hj' with ⟨j1,j2⟩|⟨_,j2⟩
    ·have e1:j' - j=0:=by have:=(List.getElem?_eq_some_iff.1 j2).1;simp at this;omega
     have e2:j'=j:=by omega
     rw [e1] at j2
     simp at j2
     subst e2 j2
     obtain ⟨i5,u,i6,i7⟩:=i4 j' _ hj
     obtain ⟨b2,o2,k1,k2,k0⟩:=(g4.1 r' qs hq).resolve_left (fun h=>by rw [h.1] at hj;simp at hj)
     obtain ⟨c2,el2,k3,k4⟩:=k0.cells_one hj rfl
     rw [k1] at i1
     injection i1 with i1
     injection i1 with z1 z2
     subst z1 z2
     rw [k3] at i3
     injection i3 with i3
     injection i3 with z3 z4
     subst z3
     obtain ⟨_,u',k5,k6⟩:=k4 j' _ hj
     rw [k5] at i6
     injection i6 with i6
     subst i6
     exact ⟨rfl,u',k5,k6.osl_frz g4 (by simp) hr hv hp⟩
    ·exact i4 j' a' j2
  ·rw [up_ne e] at hr';exact hst.1 r' c' hr'
 ·obtain ⟨d1,j1⟩:=hup r1 c1 i1
  obtain ⟨d2,j2⟩:=hup r2 c2 i2
  exact hst.2 r1 r2 d1 d2 b o1 o2 j1 j2 i3 i4
theorem W.name (f m':Nat) {t sz:Nat} (ht:T t=some .nils) (hm:m≤f) (hm':f < m') (h:W P k n c m' (up T t (some (.osl f 0 0 sz))) (up H f (some [])) K):W P k n c m T H K:=by
 obtain ⟨e,m2,T2,H2,h1,h2⟩:=h
 refine ⟨e,m2,T2,H2,h1,fun B hB a w hsim=>h2 B hB a w ?_⟩
 obtain ⟨h0,X,φ,g1,g2,g3,g4,g5,g6⟩:=hsim
 obtain ⟨i1,i2⟩:=g4.phantom (g6 f hm)
 refine ⟨by omega,X,φ,g1.trans i1 (fun r hr=>by rw [hr];omega),g2,g3,i2,all_up (p:=fun t v=>Rep X w φ (a.tmps.getD t undef) v) ?_ g5,fun r hr=>g6 r (by omega)⟩
 have h3:=g5 t _ ht
 generalize a.tmps.getD t undef=u at h3
 cases h3
 exact .osl0 _ _ _ _
theorem W.namec (f m':Nat) {q j sz:Nat} {qs qs':List AV} (hq:H q=some qs) (hj:qs[j]?=some .nils) (hs:Sp qs j [.osl f 0 0 sz] qs') (hm:m≤f) (hm':f < m') (hqf:q≠f) (h:W P k n c m' T (up (up H f (some [])) q (some qs')) K):W P k n c m T H K:=by
 obtain ⟨e,m2,T2,H2,h1,h2⟩:=h
 refine ⟨e,m2,T2,H2,h1,fun B hB a w hsim=>h2 B hB a w ?_⟩
 obtain ⟨h0,X,φ,g1,g2,g3,g4,g5,g6⟩:=hsim
 obtain ⟨i1,i2⟩:=g4.phantom (g6 f hm)
 have hq1:up H f (some []) q=some qs:=by rw [up_ne hqf];exact hq
 have hnx:=g1.trans i1 (fun r hr=>by rw [hr];omega)
 have hup:∀ r' c',up (up H f (some [])) q (some qs') r'=some c'→∃ c0,up H f (some []) r'=some c0:=fun r' c' h=>by
  by_cases e:r'=q
  ·subst e;exact ⟨qs,hq1⟩
  ·rw [up_ne e] at h;exact ⟨c',h⟩
 refine ⟨by omega,X,φ,{ hnx with lv:=fun r' c' b o j1 j2=>by obtain ⟨c0,j3⟩:=hup r' c' j1;exact hnx.lv r' c0 b o j3 j2 },g2,g3,⟨fun r' c' hr'=>?_,fun r1 r2 c1 c2 b o1 o2 j1 j2 j3 j4=>?_,g4.gl⟩,g5,fun r hr=>g6 r (by omega)⟩
 ·by_cases e:r'=q
  ·subst e
   rw [up_at] at hr'
   injection hr' with hr'
   subst hr'
   obtain ⟨k1,k2⟩|⟨b,o,k1,k2,k0⟩:=i2.1 r' qs hq1
   ·rw [k1] at hj;simp at hj
   ·obtain ⟨c1,el,k3,k4⟩:=k0.cells_one hj rfl
    refine .inr ⟨b,o,k1,k2,.cells c1 el k3 fun j' a' hj'=>?_⟩
    rcases hs.2.2 j' a' hj' with ⟨j1,j2⟩|⟨_,j2⟩
    ·have e1:j' - j=0:=by have:=(List.getElem?_eq_some_iff.1 j2).1;simp at this;omega
     have e2:j'=j:=by omega
     rw [e1] at j2
     simp at j2
     subst e2 j2
     obtain ⟨_,u,k5,k6⟩:=k4 j' _ hj
     refine ⟨rfl,u,k5,?_⟩
     cases k6
     exact .osl0 _ _ _ _
    ·exact k4 j' a' j2
  ·rw [up_ne e] at hr';exact i2.1 r' c' hr'
 ·obtain ⟨d1,l1⟩:=hup r1 c1 j1
  obtain ⟨d2,l2⟩:=hup r2 c2 j2
  exact i2.2 r1 r2 d1 d2 b o1 o2 l1 l2 j3 j4
def ren1 (σ:Nat→Nat):AV→AV
 | .own r off=>.own (σ r) off
 | .osl r off len sz=>.osl (σ r) off len sz
 | .mref r=>.mref (σ r)
 | a=>a
def ren2 (σ:Nat→Nat):AV→AV
 | .agg cs=>.agg (cs.map (ren1 σ))
 | a=>ren1 σ a
theorem ren1_one (σ:Nat→Nat) (a:AV):(ren1 σ a).one=a.one:=by cases a<;>rfl
theorem ren1_rep {X:Nat→Prop} {w:World} {φ:Em} {v:Value} {a:AV} (σ:Nat→Nat) (h1:a.one=true) (h:Rep X w φ v (ren1 σ a)):Rep X w (fun r=>φ (σ r)) v a:=by
 cases a with
 | own r off=>obtain ⟨b,o,hp,rfl,hbs0⟩:=h.own_inv;exact .own r off b o hp hbs0
 | osl r off len sz =>
  obtain ⟨A,cap,rfl,hc,⟨rfl,rfl⟩|⟨b,o,hp,rfl,hs⟩⟩:=h.osl_inv
  ·exact .osl0 _ _ _ _
  ·exact .osl r off len sz b o cap hp hc hs
 | mref r=>cases h with|mref _ b o hp=>exact .mref r b o hp
 | mp kd m=>cases h1
 | agg cs=>cases h1
 | tup vs=>cases h1
 | base u=>exact h.pure1 rfl
 | nils=>exact h.pure1 rfl
 | imm cs off=>exact h.pure1 rfl
 | isl cs len=>exact h.pure1 rfl
 | clo g cs=>exact h.pure1 rfl
theorem ren2_rep {X:Nat→Prop} {w:World} {φ:Em} {v:Value} {a:AV} (σ:Nat→Nat) (ht:∀ vs,a≠.tup vs) (h:Rep X w φ v (ren2 σ a)):Rep X w (fun r=>φ (σ r)) v a:=by
 by_cases ha:∃ cs,a=.agg cs
 ·obtain ⟨cs,rfl⟩:=ha
  cases h with
  | agg vs _ hl h1 hh =>
   refine .agg vs cs (by simpa using hl) (fun i c hc=>?_) fun i v c hv hc=>?_
   ·have:=h1 i (ren1 σ c) (by simp [hc])
    rwa [ren1_one] at this
   ·have h2:=h1 i (ren1 σ c) (by simp [hc])
    rw [ren1_one] at h2
    exact ren1_rep σ h2 (hh i v (ren1 σ c) hv (by simp [hc]))
 ·have h2:ren2 σ a=ren1 σ a:=by cases a<;>first|rfl|exact absurd ⟨_,rfl⟩ ha
  rw [h2] at h
  cases a with
  | agg cs=>exact absurd ⟨_,rfl⟩ ha
  | tup vs=>exact absurd rfl (ht vs)
  | base u=>exact h.pure1 (by rfl)
  | own r off=>exact ren1_rep σ rfl h
  | osl r off len sz=>exact ren1_rep σ rfl h
  | mref r=>exact ren1_rep σ rfl h
  | mp kd m=>cases h
  | nils=>exact ren1_rep σ rfl h
  | imm cs off=>exact ren1_rep σ rfl h
  | isl cs len=>exact ren1_rep σ rfl h
  | clo g cs=>exact ren1_rep σ rfl h
def sg (L:List (Nat × Nat)) (m:Nat):Nat→Nat:=fun r=>match L with
 | []=>m + r
 | (a,b)::l=>match Nat.beq a r with
  | true=>b
  | false=>sg l m r
def keyIn:List (Nat × Nat)→Nat→Bool
 | [],_=>false
 | (a,_)::l,r=>Nat.beq a r || keyIn l r
def okL (k m2:Nat) (L:List (Nat × Nat)):Bool:=L.all (fun p=>decide (p.1 < m2)) && decide ((L.map (·.2)).Nodup) && (List.range k).all (fun r=>Nat.beq (sg L 0 r) r && keyIn L r) && decide (k≤m2)
theorem sg_far {L:List (Nat × Nat)} {m r:Nat} (h:keyIn L r=false):sg L m r=m + r:=by
 induction L with
 | nil=>rfl
 | cons p l ih =>
  obtain ⟨a,b⟩:=p
  simp only [keyIn,Bool.or_eq_false_iff] at h
  unfold sg
  rw [h.1]
  exact ih h.2
theorem sg_mem {L:List (Nat × Nat)} {m r:Nat} (h:keyIn L r=true):(r,sg L m r)∈L:=by
 induction L with
 | nil=>cases h
 | cons p l ih =>
  obtain ⟨a,b⟩:=p
  simp only [keyIn,Bool.or_eq_true] at h
  unfold sg
  cases hb:Nat.beq a r with
  | true=>have:=Nat.eq_of_beq_eq_true hb;subst this;simp
  | false=>exact List.mem_cons_of_mem _ (ih (by rcases h with h|h;rw [hb] at h;cases h;exact h))
theorem sg_in {L:List (Nat × Nat)} {m m' r:Nat} (h:keyIn L r=true):sg L m r=sg L m' r:=by
 induction L with
 | nil=>cases h
 | cons p l ih =>
  obtain ⟨a,b⟩:=p
  simp only [keyIn,Bool.or_eq_true] at h
  unfold sg
  cases hb:Nat.beq a r with
  | true=>rfl
  | false=>exact ih (by rcases h with h|h;rw [hb] at h;cases h;exact h)
theorem nodup_fst {α:Type} {L:List (Nat × α)} {a b:Nat} {c:α} (h:(L.map (·.2)).Nodup) (h1:(a,c)∈L) (h2:(b,c)∈L):a=b:=by
 induction L with
 | nil=>cases h1
 | cons p l ih =>
  simp only [List.map_cons,List.nodup_cons] at h
  rcases List.mem_cons.1 h1 with e1|e1
  ·rcases List.mem_cons.1 h2 with e2|e2
   ·rw [← e1] at e2;injection e2 with e2;exact e2.symm
   ·exfalso;exact h.1 (List.mem_map.2 ⟨_,e2,by rw [← e1]⟩)
  ·rcases List.mem_cons.1 h2 with e2|e2
   ·exfalso;exact h.1 (List.mem_map.2 ⟨_,e1,by rw [← e2]⟩)
   ·exact ih h.2 e1 e2
theorem W.rename (L:List (Nat × Nat)) (m2:Nat) {T':Tp} {H':Hp} (hL:okL k m2 L=true)
 (hT:∀ t v,T' t=some v→(T t=some v∧v.pure=true)∨(T t=some (ren2 (sg L m) v)∧∀ vs,v≠.tup vs))
 (hH:∀ r cs,H' r=some cs→keyIn L r=true∧∃ cs0,H (sg L m r)=some cs0∧(cs0=cs.map (ren1 (sg L m))∨(cs0=cs∧cs.all AV.pure1=true))) (h:W P k n c m2 T' H' K):W P k n c m T H K:=by
 obtain ⟨e,m3,T2,H2,h1,h2⟩:=h
 unfold okL at hL
 simp only [Bool.and_eq_true,List.all_eq_true,decide_eq_true_eq,List.mem_range] at hL
 obtain ⟨⟨⟨hlt,hnd⟩,hid⟩,hkm⟩:=hL
 have hσk:∀ r,r < k→sg L m r=r:=fun r hr=>by
  have h3:=hid r hr
  rw [sg_in (m':=0) h3.2]
  exact Nat.eq_of_beq_eq_true h3.1
 refine ⟨e,m3,T2,H2,h1,fun B hB a w hs=>h2 B hB a w ?_⟩
 obtain ⟨h0,X,φ,g1,g2,g3,g4,g5,g6⟩:=hs
 have hinj:∀ r r',keyIn L r=true→keyIn L r'=true→sg L m r=sg L m r'→r=r':=fun r r' i1 i2 i3=>by
  have j1:=sg_mem (m:=m) i1
  have j2:=sg_mem (m:=m) i2
  rw [i3] at j1
  exact nodup_fst hnd j1 j2
 have hcells:∀ (cs0 cs:List AV) (u:Value) (a':AV) (j:Nat),(cs0=cs.map (ren1 (sg L m))∨(cs0=cs∧cs.all AV.pure1=true))→cs[j]?=some a'→∃ b,cs0[j]?=some b∧(b.one=true→a'.one=true∧(Rep X w φ u b→Rep X w (fun r=>φ (sg L m r)) u a')):=by
  intro cs0 cs u a' j hc hj
  rcases hc with rfl|⟨rfl,hp⟩
  ·refine ⟨ren1 (sg L m) a',by simp [hj],fun h1=>?_⟩
   rw [ren1_one] at h1
   exact ⟨h1,fun hr=>ren1_rep _ h1 hr⟩
  ·exact ⟨a',hj,fun h1=>⟨h1,fun hr=>hr.pure1 (List.all_eq_true.1 hp a' (List.mem_of_getElem? hj))⟩⟩
 refine ⟨by omega,X,fun r=>φ (sg L m r),⟨g1.os,g1.tape,g1.output,g1.size,g1.same,g1.bs,g1.xs,g1.xk,fun r hr=>?_,fun r cs b o i1 i2=>?_⟩,g2,g3,⟨fun r cs hr=>?_,fun r r' cs cs' b o o' i1 i2 i3 i4=>?_,g4.gl⟩,fun t v ht=>?_,fun r hr=>?_⟩
 ·have hrk:r < k:=by rw [← hB];omega
  show φ (sg L m r)=_
  rw [hσk r hrk]
  exact g1.ph r hr
 ·obtain ⟨_,cs0,j1,_⟩:=hH r cs i1
  exact g1.lv _ cs0 b o j1 i2
 ·obtain ⟨_,cs0,j1,j2⟩:=hH r cs hr
  obtain ⟨i1,i2⟩|⟨b,o,i1,i2,i3⟩:=g4.1 _ cs0 j1
  ·refine .inl ⟨?_,i2⟩
   rcases j2 with j2|⟨j2,_⟩
   ·rw [i1] at j2;simpa using j2.symm
   ·rw [← j2];exact i1
  ·refine .inr ⟨b,o,i1,i2,?_⟩
   cases i3 with
   | map es cl kd mm hc hh hm =>
    refine .map es cl kd mm ?_ hh hm
    rcases j2 with j2|⟨j2,_⟩
    ·rw [hc] at j2
     match cs,j2 with
     | [a],j2 =>
      simp at j2
      cases a<;>simp [ren1] at j2
      rw [j2.1,j2.2]
     | _::_::_,j2=>simp at j2
     | [],j2=>simp at j2
    ·rw [← j2];exact hc
   | mapl es cl kd ks vs hc hh hm =>
    refine .mapl es cl kd ks vs ?_ hh hm
    rcases j2 with j2|⟨j2,_⟩
    ·rw [hc] at j2
     match cs,j2 with
     | [a,b1,b2],j2 =>
      simp only [mlC,List.map_cons,List.map_nil,List.cons.injEq,and_true] at j2
      obtain ⟨q0,q1,q2⟩:=j2
      cases a<;>simp [ren1] at q0
      cases b1<;>simp [ren1] at q1
      cases b2<;>simp [ren1] at q2
      rw [← q0.1,← q0.2,← q1,← q2];rfl
     | [_,_],j2=>simp [mlC] at j2
     | [_],j2=>simp [mlC] at j2
     | _::_::_::_::_,j2=>simp [mlC] at j2
     | [],j2=>simp [mlC] at j2
    ·rw [← j2];exact hc
   | cells c1 el i3 i4 =>
   refine .cells c1 el i3 fun j a' hj=>?_
   obtain ⟨b',hb',_⟩:=hcells cs0 cs undef a' j j2 hj
   obtain ⟨k1,u,k2,k3⟩:=i4 j b' hb'
   obtain ⟨b'',hb'',h5⟩:=hcells cs0 cs u a' j j2 hj
   rw [hb'] at hb''
   injection hb'' with hb''
   subst hb''
   exact ⟨(h5 k1).1,u,k2,(h5 k1).2 k3⟩
 ·obtain ⟨k1,c1,j1,_⟩:=hH r cs i1
  obtain ⟨k2,c2,j2,_⟩:=hH r' cs' i2
  exact hinj r r' k1 k2 (g4.2 _ _ c1 c2 b o o' j1 j2 i3 i4)
 ·rcases hT t v ht with ⟨i1,i2⟩|⟨i1,i2⟩
  ·exact (g5 t v i1).pure i2
  ·exact ren2_rep _ i2 (g5 t _ i1)
 ·show φ (sg L m r)=none
  refine g6 _ ?_
  cases hk:keyIn L r with
  | true=>have:=hlt _ (sg_mem (m:=m) hk);simp only at this;omega
  | false=>rw [sg_far hk];omega
end
theorem WL.rename {P:Program} {k n m:Nat} {T:Tp} {H:Hp} {K:Exit→Nat→Tp→Hp→Prop} {c:Code} (L:List (Nat × Nat)) (m2:Nat) {T':Tp} {H':Hp} (hL:okL k m2 L=true)
 (hT:∀ t v,T' t=some v→(T t=some v∧v.pure=true)∨(T t=some (ren2 (sg L m) v)∧∀ vs,v≠.tup vs))
 (hH:∀ r cs,H' r=some cs→keyIn L r=true∧∃ cs0,H (sg L m r)=some cs0∧(cs0=cs.map (ren1 (sg L m))∨(cs0=cs∧cs.all AV.pure1=true))) (h:WL P k n c m2 T' H' K):WL P k n c m T H K:=by
 obtain ⟨r,hr⟩:=h
 cases r with
 | zero=>exact hr.elim
 | succ r=>exact ⟨r + 1,W.rename L m2 hL hT hH hr⟩
theorem W.loop_ind {P:Program} {k n:Nat} {K:Exit→Nat→Tp→Hp→Prop} {c:Code} {α:Type} (μ:α→Nat) (m:Nat) (T:α→Tp) (H:α→Hp) (I:α→Prop) (x0:α) (h0:I x0)
 (hstep:∀ x,I x→(∀ y,μ y < μ x→I y→WL P k n c m (T y) (H y) K)→W P k n c m (T x) (H x) (thenK (fun m T H=>WL P k n c m T H K) K)):W P k n (.loop c) m (T x0) (H x0) K:=by
 refine W.loop ?_
 have key:∀ q x,μ x=q→I x→WL P k n c m (T x) (H x) K:=by
  intro q
  induction q using Nat.strongRecOn with
  | _ q ih=>intro x hx hI;exact WL.step (hstep x hI fun y hy hIy=>ih (μ y) (by omega) y rfl hIy)
 exact key _ x0 rfl h0
theorem AFn.ex {P:Program} {f:FuncId} {fn:Func} {code:Code} {k n:Nat} {args:List AV} {H:Hp} {Q:AV→Hp→Prop} (hf:P.funcs[f]?=some fn) (hb:fn.body=some code) (hn:fn.ntmps=n) (hl:args.length≤n)
 (h:W P k n code k (fun t=>args[t]?) H (RetK P fn Q)):∃ v H',AFn P f k args H v H'∧Q v H':=AFn.of_W hf hb hn hl h
theorem AFn.eq {P:Program} {f:FuncId} {fn:Func} {code:Code} {k n:Nat} {args:List AV} {H H':Hp} {v:AV} (hf:P.funcs[f]?=some fn) (hb:fn.body=some code) (hn:fn.ntmps=n) (hl:args.length≤n)
 (h:W P k n code k (fun t=>args[t]?) H (RetK P fn fun u G=>u=v∧G=H')):AFn P f k args H v H':=by
 obtain ⟨u,G,h1,rfl,rfl⟩:=AFn.of_W hf hb hn hl h
 exact h1
theorem AFn.below {P:Program} {f:FuncId} {args:List AV} {v:Value} {w:World} {vals:Array Value} (h:AFn P f 0 args mt (.base v) mt) (hs:vals.size=args.length) (hR:∀ (i:Nat) x a,vals[i]?=some x→args[i]?=some a→Rep (fun _=>False) w mt x a) (hG:Glob (fun _=>False) w) :
 Calls P f vals w fun e w'=>e=.returned v∧Below w.heap.size w w':=by
 refine (h (fun _=>False) mt w vals hs hR ⟨fun r cs h=>(by cases h),fun r r' cs cs' b o o' h=>(by cases h),hG⟩ (fun _ _=>rfl)).mono ?_
 rintro e w' ⟨x,X',φ',rfl,h1,h2,h3⟩
 rw [h3.base_eq]
 exact ⟨rfl,⟨h1.os,h1.tape,h1.output,h1.size,fun b hb=>h1.same b hb fun r cs o h=>(by cases h)⟩⟩
end Go.Proofs.Ythbegdeojkdlbaa
namespace Go.Proofs.Ythbegdeojkdlbaa
open Go.RowKit
section
variable {P:Program} {o:Oper} {E:Operand→Option AV} {H:Hp} {f:Nat} {v v':AV} {g:FuncId} {xs:Array Operand} {ts:Array TypeId} {args:List AV} {fr:List Nat}
theorem osl_move {X:Nat→Prop} {w:World} {φ φ2:Em} {x:Value} {r q len sz:Nat} (h:Rep X w φ x (.osl r 0 len sz)) (e:φ2 q=φ r):Rep X w φ2 x (.osl q 0 len sz):=by
 obtain ⟨A,cap,rfl,hc,⟨rfl,rfl⟩|⟨b,o,hp,rfl,hs⟩⟩:=h.osl_inv
 ·exact .osl0 _ _ _ _
 ·exact .osl q 0 len sz b o cap (e.trans hp) hc hs
end
end Go.Proofs.Ythbegdeojkdlbaa
namespace Go.Proofs.Ythbegdeojkdlbaa
open Go.RowKit
section
variable {P:Program} {k n m:Nat} {T:Tp} {H:Hp} {K:Exit→Nat→Tp→Hp→Prop}
def Joins (P:Program) (k n:Nat) {α:Type} (M:Nat) (T':α→Tp) (H':α→Hp) (A:α→Prop) (m:Nat) (T:Tp) (H:Hp):Prop:=∀ (y:Code) (K:Exit→Nat→Tp→Hp→Prop),(∀ a,A a→W P k n y M (T' a) (H' a) K)→W P k n y m T H K
end
end Go.Proofs.Ythbegdeojkdlbaa
namespace Go.Proofs.Ythbegdeojkdlbaa
open Go.RowKit Go.Lib
section
variable {P:Program} {o:Oper} {E:Operand→Option AV} {H:Hp} {f:Nat} {v a:AV} {t:TypeId} {l:Lay} {size bytes:Nat} {zero:List AV} {x y:Operand} {e sz by' m:Nat} {l':Lay} {z':List AV}
end
end Go.Proofs.Ythbegdeojkdlbaa
namespace Go.Proofs.Ythbegdeojkdlbaa
open Go.RowKit
theorem ne_of_beq_false {a b:Int} (h:(a == b)=false):a≠b:=by simpa using h
def baseT:List (Nat × AV)→Tp
 | []=>mt
 | (t,v)::l=>up (baseT l) t (some v)
def RenT (σ:Nat→Nat) (T:Tp) (t:Nat) (v:AV):Prop:=(T t=some v∧v.pure=true)∨(T t=some (ren2 σ v)∧∀ vs,v≠.tup vs)
inductive LookR (σ:Nat→Nat) (T:Tp):List (Nat × AV)→Prop
 | nil:LookR σ T []
 | cons {t:Nat} {v:AV} {l:List (Nat × AV)} (h:RenT σ T t v) (hl:LookR σ T l):LookR σ T ((t,v)::l)
inductive LookK (σ:Nat→Nat) (T:Tp):List (Nat × AV)→Prop
 | nil:LookK σ T []
 | cons {t:Nat} {v:AV} {l:List (Nat × AV)} (h:T t=some v) (h2:v.pure=true∨(ren2 σ v=v∧∀ vs,v≠.tup vs)) (hl:LookK σ T l):LookK σ T ((t,v)::l)
theorem LookK.R {σ:Nat→Nat} {T:Tp} {l:List (Nat × AV)} (h:LookK σ T l):LookR σ T l:=by
 induction h with
 | nil=>exact .nil
 | cons h h2 _ ih =>
  refine .cons ?_ ih
  rcases h2 with h2|⟨h2,h3⟩
  ·exact .inl ⟨h,h2⟩
  ·exact .inr ⟨by rw [h2];exact h,h3⟩
theorem LookR.app {σ:Nat→Nat} {T:Tp} {a b:List (Nat × AV)} (h1:LookR σ T a) (h2:LookR σ T b):LookR σ T (a++b):=by
 induction h1 with
 | nil=>exact h2
 | cons h _ ih=>exact .cons h ih
theorem LookR.all {σ:Nat→Nat} {T:Tp} {l:List (Nat × AV)} (h:LookR σ T l):∀ t v,baseT l t=some v→RenT σ T t v:=by
 induction h with
 | nil=>intro t v h;cases h
 | cons h _ ih=>exact all_up h ih
def RenH (L:List (Nat × Nat)) (m:Nat) (H:Hp) (r:Nat) (cs:List AV):Prop:=keyIn L r=true∧∃ cs0,H (sg L m r)=some cs0∧(cs0=cs.map (ren1 (sg L m))∨(cs0=cs∧cs.all AV.pure1=true))
theorem W.loop_keep {P:Program} {k n m:Nat} {T:Tp} {H:Hp} {K:Exit→Nat→Tp→Hp→Prop} {c:Code} {α:Type} {vs:List (Nat × AV)} (μ:α→Nat) (m2:Nat) (os:α→List (Nat × AV)) (Hf:α→Hp) (I:α→Prop) (x0:α) (L:List (Nat × Nat))
 (hk:LookK (sg L m) T vs) (h0:I x0) (hL:okL k m2 L=true) (ho:LookR (sg L m) T (os x0)) (hH:∀ r cs,Hf x0 r=some cs→RenH L m H r cs)
 (hstep:∀ x,I x→(∀ y,μ y < μ x→I y→WL P k n c m2 (baseT (os y++vs)) (Hf y) K)→W P k n c m2 (baseT (os x++vs)) (Hf x) (thenK (fun m T H=>WL P k n c m T H K) K)):W P k n (.loop c) m T H K :=
 W.rename L m2 (T':=baseT (os x0++vs)) (H':=Hf x0) hL (ho.app hk.R).all hH
  (W.loop_ind μ m2 (fun x=>baseT (os x++vs)) Hf I x0 h0 hstep)
theorem WL.renameL {P:Program} {k n m:Nat} {T:Tp} {H:Hp} {K:Exit→Nat→Tp→Hp→Prop} {c:Code} (L:List (Nat × Nat)) (m2:Nat) {l:List (Nat × AV)} {H':Hp} (hL:okL k m2 L=true)
 (hT:LookR (sg L m) T l) (hH:∀ r cs,H' r=some cs→RenH L m H r cs) (h:WL P k n c m2 (baseT l) H' K):WL P k n c m T H K :=
 WL.rename L m2 hL hT.all hH h
end Go.Proofs.Ythbegdeojkdlbaa
namespace Go.Proofs.Ythbegdeojkdlbaa
open Go.ChangeShapes Go.WideShapes Go.ChangeAt Go.RowKit
def CR (w:World) (cs:List Value) (avs:List AV):Prop:=cs.length=avs.length∧∀ (i:Nat) v a,cs[i]?=some v→avs[i]?=some a→a.one=true∧a.pure1=true∧Rep (fun _=>False) w mt v a
theorem CR.one {w:World} {v:Value} {a:AV} (h1:a.one=true) (h0:a.pure1=true) (h:Rep (fun _=>False) w mt v a):CR w [v] [a]:=⟨rfl,fun i u b hu hb=>by
 cases i with
 | zero=>simp at hu hb;subst hu hb;exact ⟨h1,h0,h⟩
 | succ i=>simp at hu⟩
section
variable {H:Type}
def Opens (enc:TypeId × Value→H) (P:Program) (t:TypeId) {α:Type} (E:α→List AV) (ok:α→Prop):Prop :=
 ∀ (w:World) (base:Nat) (spare:Nat→Bool) (held:Bool) (fuel:Nat) (cs:List Value) (y:DataW H × List MemPlace),DataW.trod enc P w base spare held fuel t cs=some y→∃ x,ok x∧CR w cs (E x)
variable {enc:TypeId × Value→H} {P:Program} {t e:TypeId} {α β:Type} {E:α→List AV} {ok:α→Prop}
theorem Opens.int {k:IntKind} (ht:P.underlying t=some (.int k)):Opens enc P t (fun (z:Int)=>[.base (.int k z)]) (fun z=>(Lit.int k z).wf=true):=fun _w _ _ _ _ _ _ h=>by
 obtain ⟨n,rfl,_,hw⟩:=DataW.trod_int ht h
 exact ⟨n,hw,.one rfl rfl (.base _)⟩
theorem Opens.map {E':β→List AV} {ok':β→Prop} (h:Opens enc P t E ok) (g:α→β) (hE:∀ x,ok x→E' (g x)=E x) (hok:∀ x,ok x→ok' (g x)):Opens enc P t E' ok':=fun w b s hd f cs y hy=>by
 obtain ⟨x,h1,h2⟩:=h w b s hd f cs y hy
 exact ⟨g x,hok x h1,by rw [hE x h1];exact h2⟩
theorem Addr.add_add (a:Addr) (i j:Nat):(a.add i).add j=a.add (i + j):=by
 unfold Addr.add
 by_cases hi:i=0<;>by_cases hj:j=0<;>simp [hi,hj,Nat.add_assoc]
theorem add_none (a:Addr) (hs:a=⟨a.block,a.off,none⟩) (i:Nat):a.add i=⟨a.block,a.off + i,none⟩:=by
 obtain ⟨b,o,s⟩:=a
 simp only [Addr.mk.injEq,true_and] at hs
 subst hs
 unfold Addr.add
 split<;>simp [*]
theorem spotless {w:World} {a:Addr} {v:Value} (h:w.cell? a=some v):a=⟨a.block,a.off,none⟩:=by
 obtain ⟨b,o,s⟩:=a
 cases s with
 | none=>rfl
 | some s=>simp [World.cell?] at h;split at h<;>simp at h
theorem flat_at {f:α→List AV} {n:Nat} (h:∀ x,ok x→(f x).length=n):∀ (l:List α),(∀ x∈l,ok x)→∀ (i:Nat) a,(l.flatMap f)[i]?=some a→∃ k j x,i=k * n + j∧j < n∧l[k]?=some x∧(f x)[j]?=some a:=by
 intro l
 induction l with
 | nil=>intro _ i a h;simp at h
 | cons x l ih =>
  intro hok i a hi
  have hx:=h x (hok x (by simp))
  rw [List.flatMap_cons] at hi
  rcases Nat.lt_or_ge i n with hl|hl
  ·rw [List.getElem?_append_left (by omega)] at hi
   exact ⟨0,i,x,by omega,hl,rfl,hi⟩
  ·rw [List.getElem?_append_right (by omega),hx] at hi
   obtain ⟨k,j,z,h1,h2,h3,h4⟩:=ih (fun x hx=>hok x (by simp [hx])) _ _ hi
   exact ⟨k + 1,j,z,by rw [Nat.add_mul];omega,h2,h3,h4⟩
theorem pick_list {p:Nat→α→Prop}:∀ (n:Nat),(∀ i,i < n→∃ x,p i x)→∃ l:List α,l.length=n∧∀ (i:Nat) x,l[i]?=some x→p i x:=by
 intro n
 induction n with
 | zero=>intro _;exact ⟨[],rfl,fun i x h=>by simp at h⟩
 | succ n ih =>
  intro h
  obtain ⟨l,h1,h2⟩:=ih fun i hi=>h i (by omega)
  obtain ⟨x,hx⟩:=h n (by omega)
  refine ⟨l++[x],by simp [h1],fun i y hy=>?_⟩
  rcases Nat.lt_or_ge i n with hi|hi
  ·rw [List.getElem?_append_left (by omega)] at hy;exact h2 i y hy
  ·rw [List.getElem?_append_right (by omega)] at hy
   have:i - l.length=0:=by have:=(List.getElem?_eq_some_iff.1 hy).1;simp at this;omega
   rw [this] at hy
   simp at hy
   subst hy
   rw [show i=n from by omega]
   exact hx
theorem Opens.slice {n:Nat} (ht:P.underlying t=some (.slice e)) (he:Opens enc P e E ok) (hn:P.cellsOf e=n) (h0:0 < n) (hl:∀ x,ok x→(E x).length=n):Opens enc P t (fun (l:List α)=>[.isl (l.flatMap E) l.length]) (fun l=>l.length≤maxLen∧∀ x∈l,ok x):=fun w base spare held fuel cs y h=>by
 rcases DataW.trod_slice ht h with ⟨rfl,_⟩|⟨a,len,cap,elems,rest,m,_,rfl,_,hb,hlc,hm,hlen,hel,_,_⟩
 ·exact ⟨[],⟨Nat.zero_le _,fun x h=>by cases h⟩,.one rfl rfl (.isl0 _ _)⟩
 ·rw [hn] at hel
  have each:∀ i,i < len→∃ x:α,ok x∧∀ (j:Nat) c,(E x)[j]?=some c→c.one=true∧c.pure1=true∧∃ v,w.cell? (a.add (i * n + j))=some v∧Rep (fun _=>False) w mt v c:=by
   intro i hi
   have h1:=hel i hi
   rw [List.getElem?_eq_getElem (by omega),Option.bind_eq_some_iff] at h1
   obtain ⟨cs',hc1,hc2⟩:=h1
   obtain ⟨_,hc3,hc4⟩:=World.cells?_some hc1
   obtain ⟨x,hx1,hx2,hx3⟩:=he w base spare held m cs' _ hc2
   refine ⟨x,hx1,fun j c hj=>?_⟩
   have hj1:j < n:=by have:=(List.getElem?_eq_some_iff.1 hj).1;have:=hl x hx1;omega
   have hj2:cs'[j]?=some (cs'[j]'(by omega)):=List.getElem?_eq_getElem (by omega)
   obtain ⟨k1,k0,k2⟩:=hx3 j _ c hj2 hj
   refine ⟨k1,k0,_,?_,k2⟩
   have:=hc4 j hj1
   rw [hj2] at this
   rw [← this,Addr.add_add]
  obtain ⟨l,hl1,hl2⟩:=pick_list len each
  have hokl:∀ x∈l,ok x:=fun x hx=>by
   obtain ⟨i,hi⟩:=List.getElem?_of_mem hx
   exact (hl2 i x hi).1
  refine ⟨l,⟨by omega,hokl⟩,.one rfl rfl ?_⟩
  rcases Nat.eq_zero_or_pos len with hz|hz
  ·obtain rfl:l=[]:=List.length_eq_zero_iff.1 (by omega)
   obtain rfl:len=0:=hz
   exact .isl0 _ _
  ·have hx0:=hl2 0 (l[0]'(by omega)) (List.getElem?_eq_getElem (by omega))
   have hE0:=hl _ hx0.1
   obtain ⟨_,_,v0,hv0,_⟩:=hx0.2 0 _ (List.getElem?_eq_getElem (by omega))
   rw [show a.add (0 * n + 0)=a from by simp [Addr.add]] at hv0
   have hs:=spotless hv0
   rw [hs,hl1]
   refine mk_isl hlc (World.block_lt_of_cell? w _ hv0) (fun h=>h) fun i c hi=>?_
   obtain ⟨k,j,x,rfl,hj,hk,hc⟩:=flat_at hl l hokl i c hi
   obtain ⟨k1,hp,v,hv,hr⟩:=(hl2 k x hk).2 j c hc
   refine ⟨k1,v,?_,fun φ'=>hr.pure1 hp⟩
   rw [← hv,add_none a hs]
theorem tAll_cons {w:World} {b0:Nat} {spare:Nat→Bool} {held:Bool} {ts:List TypeId} {vs:List Value} {ds:List (DataW H)} {ps:List MemPlace} (h:DataW.TrodAll enc P w b0 spare held (t::ts) vs ds ps) :
 ∃ v vs' d ds' p q,vs=v::vs'∧ds=d::ds'∧ps=p++q∧DataW.Trod enc P w b0 spare held t v d p∧DataW.TrodAll enc P w b0 spare held ts vs' ds' q:=by
 cases vs with
 | nil=>exact h.elim
 | cons v vs =>
  cases ds with
  | nil=>exact h.elim
  | cons d ds =>
   obtain ⟨p,q,h1,h2,h3⟩:=h
   exact ⟨v,vs,d,ds,p,q,rfl,rfl,h3,h1,h2⟩
theorem tAll_nil {w:World} {b0:Nat} {spare:Nat→Bool} {held:Bool} {vs:List Value} {ds:List (DataW H)} {ps:List MemPlace} (h:DataW.TrodAll enc P w b0 spare held [] vs ds ps):vs=[]∧ds=[]∧ps=[]:=by
 cases vs with
 | nil =>
  cases ds with
  | nil=>exact ⟨rfl,rfl,h⟩
  | cons d ds=>exact h.elim
 | cons v vs=>cases ds<;>exact h.elim
theorem Opens.argS {w:World} {r:Reach} {base:Nat} {spare:Nat→Bool} {held:Bool} {b0:Nat} {v:Value} {d:DataW H} {p:List MemPlace} (ht:P.underlying t=some (.slice e)) (hv:Value.okWide P w r base t v) (h:DataW.Trod enc P w b0 spare held t v d p) {F:α→AV} (ho:Opens enc P t (fun x=>[F x]) ok) :
 ∃ x,ok x∧Rep (fun _=>False) w mt v (F x):=by
 obtain ⟨a,len,cap,rfl⟩:=okWide_slice ht hv
 obtain ⟨fuel,hf⟩:=h
 obtain ⟨x,h1,h2⟩:=ho w _ _ _ _ _ _ hf
 exact ⟨x,h1,(h2.2 0 _ _ rfl rfl).2.2⟩
end
end Go.Proofs.Ythbegdeojkdlbaa
namespace Go.Proofs.Ythbegdeojkdlbaa
open Go.RowKit Go.Lib
section
variable {P:Program} {o:Oper} {E:Operand→Option AV} {H:Hp} {f:Nat} {v a:AV} {t tx:TypeId} {l lx:Lay} {size bytes sx bx:Nat} {zero zx:List AV} {x y:Operand} {e ex sz by' m:Nat} {l':Lay} {z' ns:List AV} {rd:List Nat}
end
end Go.Proofs.Ythbegdeojkdlbaa
namespace Go.Proofs.Ythbegdeojkdlbaa
open Go.RowKit Go.Lib
section
variable {P:Program} {o:Oper} {E:Operand→Option AV} {H:Hp} {f:Nat} {v a:AV} {t tx:TypeId} {l lx:Lay} {size bytes sx bx:Nat} {zero zx:List AV} {x y:Operand} {e ex sz by' m:Nat} {l':Lay} {z' ns:List AV} {rd:List Nat}
end
end Go.Proofs.Ythbegdeojkdlbaa
namespace Go.Proofs.Ythbegdeojkdlbaa
open Go.RowKit
section
variable {P:Program} {o:Oper} {E:Operand→Option AV} {H:Hp} {f:Nat} {v v':AV} {g:FuncId} {xs:Array Operand} {ts:Array TypeId} {args:List AV} {fr:List Nat}
end
end Go.Proofs.Ythbegdeojkdlbaa
namespace Go.Proofs.Ythbegdeojkdlbaa
open Go.RowKit
theorem Rep.nil_isl {X:Nat→Prop} {w:World} {φ:Em} {v:Value} (h:Rep X w φ v .nils):Rep X w φ v (.isl [] 0):=by
 cases h
 exact .isl0 _ _
section
variable {P:Program} {k n m:Nat} {T:Tp} {H:Hp} {K:Exit→Nat→Tp→Hp→Prop} {c:Code}
theorem W.nilt {t:Nat} (ht:T t=some .nils) (h:W P k n c m (up T t (some (.isl [] 0))) H K):W P k n c m T H K:=by
 obtain ⟨e,m2,T2,H2,h1,h2⟩:=h
 refine ⟨e,m2,T2,H2,h1,fun B hB a w hs=>h2 B hB a w ?_⟩
 obtain ⟨h0,X,φ,g1,g2,g3,g4,g5,g6⟩:=hs
 exact ⟨h0,X,φ,g1,g2,g3,g4,all_up (p:=fun t v=>Rep X w φ (a.tmps.getD t undef) v) (g5 t _ ht).nil_isl g5,g6⟩
theorem W.nilc {q j:Nat} {qs qs':List AV} (hq:H q=some qs) (hj:qs[j]?=some .nils) (hs:Sp qs j [.isl [] 0] qs') (h:W P k n c m T (up H q (some qs')) K):W P k n c m T H K:=by
 obtain ⟨e,m2,T2,H2,h1,h2⟩:=h
 refine ⟨e,m2,T2,H2,h1,fun B hB a w hsim=>h2 B hB a w ?_⟩
 obtain ⟨h0,X,φ,g1,g2,g3,g4,g5,g6⟩:=hsim
 have hup:∀ r' c',up H q (some qs') r'=some c'→∃ c0,H r'=some c0:=fun r' c' h=>by
  by_cases e:r'=q
  ·subst e;exact ⟨qs,hq⟩
  ·rw [up_ne e] at h;exact ⟨c',h⟩
 refine ⟨h0,X,φ,{ g1 with lv:=fun r' c' b o j1 j2=>by obtain ⟨c0,j3⟩:=hup r' c' j1;exact g1.lv r' c0 b o j3 j2 },g2,g3,⟨fun r' c' hr'=>?_,fun r1 r2 c1 c2 b o1 o2 j1 j2 j3 j4=>?_,g4.gl⟩,g5,g6⟩
 ·by_cases e:r'=q
  ·subst e
   rw [up_at] at hr'
   injection hr' with hr'
   subst hr'
   obtain ⟨k1,k2⟩|⟨b,o,k1,k2,k0⟩:=g4.1 r' qs hq
   ·rw [k1] at hj;simp at hj
   ·obtain ⟨c1,el,k3,k4⟩:=k0.cells_one hj rfl
    refine .inr ⟨b,o,k1,k2,.cells c1 el k3 fun j' a' hj'=>?_⟩
    rcases hs.2.2 j' a' hj' with ⟨j1,j2⟩|⟨_,j2⟩
    ·have e1:j' - j=0:=by have:=(List.getElem?_eq_some_iff.1 j2).1;simp at this;omega
     have e2:j'=j:=by omega
     rw [e1] at j2
     simp at j2
     subst e2 j2
     obtain ⟨_,u,k5,k6⟩:=k4 j' _ hj
     exact ⟨rfl,u,k5,k6.nil_isl⟩
    ·exact k4 j' a' j2
  ·rw [up_ne e] at hr';exact g4.1 r' c' hr'
 ·obtain ⟨d1,l1⟩:=hup r1 c1 j1
  obtain ⟨d2,l2⟩:=hup r2 c2 j2
  exact g4.2 r1 r2 d1 d2 b o1 o2 l1 l2 j3 j4
end
end Go.Proofs.Ythbegdeojkdlbaa
namespace Go.Proofs.Ythbegdeojkdlbaa
open Go.RowKit
section
variable {P:Program} {k n m:Nat} {T:Tp} {H:Hp} {K:Exit→Nat→Tp→Hp→Prop} {c:Code}
theorem W.frzo {t r off:Nat} {cs:List AV} (ht:T t=some (.own r off)) (hr:H r=some cs) (hp:cs.all AV.pure1=true) (h:W P k n c m (up T t (some (.imm cs off))) (up H r none) K):W P k n c m T H K:=by
 rw [← frK_one] at h
 refine W.freeze [r] (all_up (p:=fun t v=>∃ u,T t=some u∧(u=v∨Fz H [r] u v)) ⟨_,ht,.inr (.one (.own (by simp) hr hp))⟩ fun t v h=>⟨v,h,.inl rfl⟩) h
end
section
variable {P:Program} {o:Oper} {E:Operand→Option AV} {H:Hp} {f:Nat} {t:TypeId} {size bytes:Nat} {zero:List AV} {x:Operand} {e sz by':Nat} {l':Lay} {z':List AV}
end
end Go.Proofs.Ythbegdeojkdlbaa
namespace Go.Proofs.Ythbegdeojkdlbaa
open Go.RowKit Go.Lib
def joinT (l:List (Nat × AV)):Tp:=baseT l
theorem W.renameJ {P:Program} {k n m:Nat} {T:Tp} {H:Hp} {K:Exit→Nat→Tp→Hp→Prop} {c:Code} (L:List (Nat × Nat)) (m2:Nat) {l:List (Nat × AV)} {H':Hp} (hL:okL k m2 L=true)
 (hT:LookR (sg L m) T l) (hH:∀ r cs,H' r=some cs→RenH L m H r cs) (h:W P k n c m2 (joinT l) H' K):W P k n c m T H K :=
 W.rename L m2 hL hT.all hH h
theorem W.joinK {P:Program} {k n m:Nat} {T:Tp} {H:Hp} {K:Exit→Nat→Tp→Hp→Prop} {x y:Code} {α:Type} {vs:List (Nat × AV)} (m2:Nat) (os:α→List (Nat × AV)) (Hf:α→Hp) (A:α→Prop)
 (_hk:LookK (fun r=>r) T vs) (h1:W P k n x m T H (thenK (fun m T H=>Joins P k n m2 (fun a=>joinT (os a++vs)) Hf A m T H) K)) (h2:∀ a,A a→W P k n y m2 (joinT (os a++vs)) (Hf a) K):W P k n x m T H (thenK (fun m T H=>W P k n y m T H K) K):=by
 refine h1.mono fun e m T H h=>?_
 cases e with
 | normal=>exact h y K h2
 | _=>exact h
section
variable {P:Program} {o:Oper} {E:Operand→Option AV} {H:Hp} {f:Nat} {t tn:TypeId} {size bytes sn bn:Nat} {zero zn:List AV} {x y:Operand} {e sz by':Nat} {l':Lay} {z':List AV}
end
end Go.Proofs.Ythbegdeojkdlbaa
namespace Go.Proofs.Ythbegdeojkdlbaa
open Go.RowKit
section
variable {P:Program} {o:Oper} {E:Operand→Option AV} {H:Hp} {f:Nat} {t:TypeId} {size bytes:Nat} {zero:List AV} {x:Operand} {e sz by':Nat}
end
end Go.Proofs.Ythbegdeojkdlbaa
namespace Go.Proofs.Ythbegdeojkdlbaa
open Go.RowKit
section
variable {P:Program} {o:Oper} {E:Operand→Option AV} {H:Hp} {f:Nat} {v v':AV} {g:FuncId} {xs:Array Operand} {ts:Array TypeId} {args:List AV} {fr:List Nat}
theorem LO.callPT {q:Nat} {cs cs' ds:List AV} (ho:o.op=.call { callee:=.value (.func g),args:=xs,argTypes:=ts }) (hE:E (.func g)=some (.base (.func (.func g) #[] #[]))) (h:AFn P g 1 args (up mt 0 (some cs)) v (up (up mt 0 (some cs')) 1 (some ds))) (hF:FnOK P g)
 (hargs:Args E H fr (some q) xs.toList args) (hH:H q=some cs) (hp:cs.all AV.pure1=true) (hp':cs'.all AV.pure1=true) (hpd:ds.all AV.pure1=true) (h0:cs≠[]) (hqf:q ∉ fr) (hff2:f ∉ fr) (hqn:q≠f) (hv:∀ (X:Nat→Prop) (w:World) (φ φ2:Em) (x:Value),Rep X w φ x v→φ2 f=φ 1→Rep X w φ2 x v') :
 LO P o E H f [] (f::q::fr) v' (up (up (frK H fr) q (some cs')) f (some ds)):=by
 refine ⟨fun r hr=>by simp at hr;rw [up_ne hr.1,up_ne hr.2.1];exact if_neg hr.2.2,fun E' K hE' hK X φ w ρ hR hst hff=>?_⟩
 have hKf:∀ r,r∈fr→K r=H r:=fun r hr=>hK r (.inr (by simp [hr]))
 have hKq:K q=some cs:=(hK q (.inr (by simp))).trans hH
 have hov:ovr K (f::q::fr) (up (up (frK H fr) q (some cs')) f (some ds))=up (up (frK K fr) q (some cs')) f (some ds):=by
  funext r
  unfold ovr
  by_cases h1:r=f
  ·subst h1;simp [up_at]
  ·rw [up_ne h1,up_ne h1]
   by_cases h2:r=q
   ·subst h2;simp [up_at]
   ·rw [up_ne h2,up_ne h2]
    unfold frK
    by_cases h3:r∈fr<;>simp [h1,h2,h3]
 rw [hov]
 obtain ⟨fn,hf,hname,hb⟩:=hF
 have hops:o.op.operands=#[.func g]++xs:=by rw [ho];rfl
 have hρ:ρ (.func g)=.func (.func g) #[] #[]:=(hR (.func g) _ ((hE' _ (by rw [hops];simp)).trans hE)).base_eq
 unfold OpW
 rw [run_call ho hρ hf hname hb]
 let φc:Em:=fun i=>if i=0 then φ q else none
 obtain ⟨g1,g2⟩:=hargs.rep (K:=K) (X:=X) (φ:=φ) (φ':=φc) (w:=w) (ρ:=ρ) hKf hst (fun x hx a ha=>hR x a ((hE' x (by rw [hops];simp;exact .inr (by simpa using hx))).trans ha)) (fun q' h=>by injection h with h;subst h;exact if_pos rfl)
 have hst1:=hst.frz (fr:=fr)
 have hKq1:frK K fr q=some cs:=by unfold frK;rw [if_neg hqf];exact hKq
 obtain ⟨b0,o0,hq1,hq2,hq3⟩:∃ b o,φ q=some (b,o)∧frX X K φ fr b∧Blk (frX X K φ fr) φ w b o cs:=by
  rcases hst1.1 q cs hKq1 with ⟨h1,_⟩|h1
  ·exact absurd h1 h0
  ·exact h1
 have hc1:∀ r cs1,(up mt 0 (some cs):Hp) r=some cs1→r=0∧cs1=cs:=by
  intro r cs1 hr
  by_cases h1:r=0
  ·subst h1;rw [up_at] at hr;injection hr with hr;exact ⟨rfl,hr.symm⟩
  ·rw [up_ne h1] at hr;cases hr
 have hstc:St (frX X K φ fr) φc (up mt 0 (some cs)) w:=by
  refine ⟨fun r cs1 hr=>?_,fun r r' c c' b o o' i1 i2 _ _=>by rw [(hc1 r c i1).1,(hc1 r' c' i2).1],hst1.gl⟩
  obtain ⟨rfl,rfl⟩:=hc1 r cs1 hr
  exact .inr ⟨b0,o0,by show (if 0=0 then φ q else none)=_;rw [if_pos rfl];exact hq1,hq2,hq3.keepP rfl fun v a ha h=>h.pure1 (List.all_eq_true.1 hp a ha)⟩
 refine (h (frX X K φ fr) φc w (xs.map ρ) (by simp;simpa using g1) (fun i x a hx ha=>g2 i x a (by simpa using hx) ha) hstc (fun r hr=>if_neg (by omega))).mono ?_
 rintro e w' ⟨x,X',φ',rfl,h1,h2,h3⟩
 have hφ0:φ' 0=some (b0,o0):=by rw [h1.ph 0 (by omega)];show (if 0=0 then φ q else none)=_;rw [if_pos rfl];exact hq1
 have hH0:(up (up mt 0 (some cs')) 1 (some ds):Hp) 0=some cs':=by rw [up_ne (by decide),up_at]
 have hH1:(up (up mt 0 (some cs')) 1 (some ds):Hp) 1=some ds:=up_at _ _ _
 have hkeep:∀ v a,Rep (frX X K φ fr) w φ v a→Rep X' w' φ v a:=fun v a hr=>hr.keep h1.size (fun b hb hx=>h1.same b hb fun r cs1 o i1 i2=>by
  obtain ⟨rfl,rfl⟩:=hc1 r cs1 i1
  have:φ q=some (b,o):=i2
  rw [hq1] at this
  injection this with this
  injection this with this _
  subst this
  exact hx hq2) h1.bs h1.xs (fun _ _ h=>h)
 have hne:∀ r c b o,r≠q→frK K fr r=some c→φ r=some (b,o)→b≠b0:=fun r c b o i1 i2 i3 i4=>i1 (hst1.2 r q c cs b o o0 i2 hKq1 i3 (by rw [hq1,i4]))
 have hbn:∀ b o',φ' 1=some (b,o')→w.heap.size≤b:=fun b o' hp0=>by
  rcases h1.lv 1 ds b o' hH1 hp0 with h4|⟨r,cs1,o1,h4,h5⟩
  ·exact h4
  ·obtain ⟨rfl,rfl⟩:=hc1 r cs1 h4
   have:φ q=some (b,o1):=h5
   rw [hq1] at this
   injection this with this
   injection this with this _
   subst this
   exact absurd (h2.2 0 1 cs' ds b0 o0 o' hH0 hH1 hφ0 hp0) (by decide)
 let φ2:Em:=fun r=>if r=f then φ' 1 else φ r
 have hφf:φ2 f=φ' 1:=if_pos rfl
 have hφn:∀ r,r≠f→φ2 r=φ r:=fun r h=>if_neg h
 have hφe:∀ r y,φ r=some y→φ2 r=some y:=fun r y h=>by
  rw [hφn r (fun e=>by rw [e,hff] at h;cases h)];exact h
 have hkeep2:∀ v a,Rep X' w' φ v a→Rep X' w' φ2 v a:=fun v a h=>h.keep (Nat.le_refl _) (fun _ _ _=>rfl) (fun _ _=>rfl) (fun _ _ h=>h) hφe
 have hold:∀ r c,r≠f→up (up (frK K fr) q (some cs')) f (some ds) r=some c→(r=q∧c=cs')∨(r≠q∧frK K fr r=some c):=fun r c hr h=>by
  rw [up_ne hr] at h
  by_cases e:r=q
  ·subst e;rw [up_at] at h;injection h with h;exact .inl ⟨rfl,h.symm⟩
  ·rw [up_ne e] at h;exact .inr ⟨e,h⟩
 have hlt:∀ r c o2 b2,frK K fr r=some c→φ r=some (b2,o2)→b2 < w.heap.size:=by
  intro r c o2 b2 i1 i2
  obtain ⟨_,i3⟩|⟨b3,o3,i3,_,i4⟩:=hst1.1 r c i1
  ·rw [i3] at i2;cases i2
  ·rw [i3] at i2;injection i2 with i2;injection i2 with i2 _;subst i2;exact i4.lt
 have hold2:∀ r c,r≠f→up (up (frK K fr) q (some cs')) f (some ds) r=some c→∃ c2,frK K fr r=some c2:=fun r c hr h=>by
  rcases hold r c hr h with ⟨rfl,_⟩|⟨_,h⟩
  ·exact ⟨cs,hKq1⟩
  ·exact ⟨c,h⟩
 refine ⟨x,rfl,X',φ2,?_,⟨fun r cs1 hr=>?_,fun r1 r2 c1 c2 b1 o1 o2 i1 i2 i3 i4=>?_,h2.gl⟩,hv _ _ _ _ _ h3 hφf⟩
 ·refine (Nxt.frz (fr:=fr)).trans ⟨h1.os,h1.tape,h1.output,h1.size,fun b hb hn=>h1.same b hb (fun r cs1 o i1 i2=>?_),h1.bs,h1.xs,fun b hb hx=>?_,fun r hr=>hφn r hr,fun r cs1 b1 o1 i1 i2=>?_⟩ fun _ h=>h
  ·obtain ⟨rfl,rfl⟩:=hc1 r cs1 i1
   exact hn q _ o hKq1 i2
  ·rcases h1.xk b hb hx with i1|⟨r,cs1,o,i1,i2⟩
   ·exact .inl i1
   ·obtain ⟨rfl,rfl⟩:=hc1 r cs1 i1
    exact .inr ⟨q,_,o,hKq1,i2⟩
  ·by_cases hr:r=f
   ·subst hr
    rw [hφf] at i2
    exact .inl (hbn b1 o1 i2)
   ·obtain ⟨c2,j2⟩:=hold2 r cs1 hr i1
    rw [hφn r hr] at i2
    exact .inr ⟨r,c2,o1,j2,i2⟩
 ·by_cases hrf:r=f
  ·subst hrf
   rw [up_at] at hr
   injection hr with hr
   subst hr
   obtain ⟨h4,h5⟩|⟨b1,o1,h4,h5,h6⟩:=h2.1 1 ds hH1
   ·exact .inl ⟨h4,by rw [hφf];exact h5⟩
   ·exact .inr ⟨b1,o1,by rw [hφf];exact h4,h5,h6.keepP rfl fun v a ha h=>h.pure1 (List.all_eq_true.1 hpd a ha)⟩
  ·rcases hold r cs1 hrf hr with ⟨hrq,hcc⟩|⟨hrq,hr⟩
   ·subst hrq hcc
    obtain ⟨i1,i2⟩|⟨b1,o1,i1,i2,i3⟩:=h2.1 0 cs1 hH0
    ·rw [hφ0] at i2;cases i2
    ·rw [hφ0] at i1
     injection i1 with i1
     injection i1 with e1 e2
     subst e1 e2
     exact .inr ⟨b0,o0,by rw [hφn r hrf];exact hq1,i2,i3.keepP rfl fun v a ha h=>h.pure1 (List.all_eq_true.1 hp' a ha)⟩
   ·obtain ⟨i1,i2⟩|⟨b1,o1,i1,i2,i3⟩:=hst1.1 r cs1 hr
    ·exact .inl ⟨i1,by rw [hφn r hrf];exact i2⟩
    ·have hbne:=hne r cs1 b1 o1 hrq hr i1
     have hown:∀ r' cs2 o2,(up mt 0 (some cs):Hp) r'=some cs2→φc r'≠some (b1,o2):=fun r' cs2 o2 k1 k2=>by
      obtain ⟨rfl,rfl⟩:=hc1 r' cs2 k1
      have:φ q=some (b1,o2):=k2
      rw [hq1] at this
      injection this with this
      injection this with this _
      exact hbne this.symm
     refine .inr ⟨b1,o1,by rw [hφn r hrf];exact i1,?_,i3.keep (h1.same b1 i3.lt hown) fun v a h=>hkeep2 _ _ (hkeep _ _ h)⟩
     rcases h1.xk b1 i3.lt i2 with k1|⟨r',cs2,o2,k1,k2⟩
     ·exact k1
     ·exact absurd k2 (hown r' cs2 o2 k1)
 ·by_cases hr1:r1=f
  ·by_cases hr2:r2=f
   ·rw [hr1,hr2]
   ·exfalso
    obtain ⟨c3,k2⟩:=hold2 r2 c2 hr2 i2
    rw [hφn r2 hr2] at i4
    rw [hr1,hφf] at i3
    have hl:=hlt r2 c3 o2 b1 k2 i4
    have:=hbn b1 o1 i3
    omega
  ·obtain ⟨c3,k2⟩:=hold2 r1 c1 hr1 i1
   rw [hφn r1 hr1] at i3
   by_cases hr2:r2=f
   ·exfalso
    rw [hr2,hφf] at i4
    have hl:=hlt r1 c3 o1 b1 k2 i3
    have:=hbn b1 o2 i4
    omega
   ·obtain ⟨c4,k4⟩:=hold2 r2 c2 hr2 i2
    rw [hφn r2 hr2] at i4
    exact hst1.2 r1 r2 c3 c4 b1 o1 o2 k2 k4 i3 i4
theorem LO.callP {q n sz:Nat} {cs cs' ds:List AV} (ho:o.op=.call { callee:=.value (.func g),args:=xs,argTypes:=ts }) (hE:E (.func g)=some (.base (.func (.func g) #[] #[]))) (h:AFn P g 1 args (up mt 0 (some cs)) (.osl 1 0 n sz) (up (up mt 0 (some cs')) 1 (some ds))) (hF:FnOK P g)
 (hargs:Args E H fr (some q) xs.toList args) (hH:H q=some cs) (hp:cs.all AV.pure1=true) (hp':cs'.all AV.pure1=true) (hpd:ds.all AV.pure1=true) (h0:cs≠[]) (hqf:q ∉ fr) (hff2:f ∉ fr) (hqn:q≠f):LO P o E H f [] (f::q::fr) (.osl f 0 n sz) (up (up (frK H fr) q (some cs')) f (some ds)) :=
 .callPT ho hE h hF hargs hH hp hp' hpd h0 hqf hff2 hqn fun _ _ _ _ _ hr e=>osl_move hr e
end
end Go.Proofs.Ythbegdeojkdlbaa
namespace Go.Proofs.Ythbegdeojkdlbaa
open Go.RowKit Go.Lib
section
variable {P:Program} {o:Oper} {E:Operand→Option AV} {H:Hp} {f:Nat} {t tn:TypeId} {size bytes sn bn:Nat} {zero zn:List AV} {x y:Operand} {e sz by':Nat} {l':Lay} {z':List AV}
end
end Go.Proofs.Ythbegdeojkdlbaa
namespace Go.Proofs.Ythbegdeojkdlbaa
open Go.RowKit
section
variable {P:Program} {o:Oper} {E:Operand→Option AV} {H H':Hp} {f:Nat} {rd wr:List Nat} {v:AV}
end
end Go.Proofs.Ythbegdeojkdlbaa
namespace Go.Proofs.Ythbegdeojkdlbaa
open Go.RowKit
section
variable {kd:Value→Prop} {m m':Value→Option Value} {es:Array MapEntry} {x u:Value}
end
section
variable {P:Program} {o:Oper} {E:Operand→Option AV} {H:Hp} {f:Nat} {a:AV} {t:TypeId} {kt et size bytes r:Nat} {zero:List AV} {x y z:Operand} {kd:Value→Prop} {m m':Value→Option Value} {key u v:Value}
end
end Go.Proofs.Ythbegdeojkdlbaa
namespace Go.Proofs.Ythbegdeojkdlbaa
open Go.RowKit
end Go.Proofs.Ythbegdeojkdlbaa
namespace Go.Proofs.Ythbegdeojkdlbaa
open Go.RowKit
section
variable {P:Program} {o:Oper} {E:Operand→Option AV} {H:Hp} {f:Nat} {v:AV} {g:FuncId} {xs:Array Operand} {ts:Array TypeId} {args:List AV} {fr:List Nat}
end
end Go.Proofs.Ythbegdeojkdlbaa
namespace Go.Proofs.Ythbegdeojkdlbaa
open Go.RowKit
section
variable {P:Program} {o:Oper} {E:Operand→Option AV} {H:Hp} {f:Nat} {g:FuncId} {xs:Array Operand} {ts:Array TypeId} {args:List AV} {fr:List Nat} {u:Value}
end
section
variable {P:Program} {k n m:Nat} {T:Tp} {H:Hp} {K:Exit→Nat→Tp→Hp→Prop}
end
end Go.Proofs.Ythbegdeojkdlbaa
namespace Go.Proofs.Ythbegdeojkdlbaa
open Go.RowKit
section
variable {P:Program} {o:Oper} {E:Operand→Option AV} {H:Hp} {f:Nat} {t:TypeId} {size bytes:Nat} {zero:List AV} {x:Operand}
end
section
variable {P:Program} {o:Oper} {E:Operand→Option AV} {H:Hp} {f:Nat} {g:FuncId} {xs:Array Operand} {ts:Array TypeId} {args:List AV} {fr:List Nat} {v:AV} {z:Operand}
end
end Go.Proofs.Ythbegdeojkdlbaa
namespace Go.Proofs.Ythbegdeojkdlbaa
open Go.RowKit
section
variable {P:Program} {o:Oper} {E:Operand→Option AV} {H:Hp} {f:Nat} {v:AV} {g:FuncId} {xs:Array Operand} {ts:Array TypeId} {args:List AV} {fr:List Nat}
end
end Go.Proofs.Ythbegdeojkdlbaa
namespace Go.Proofs.Ythbegdeojkdlbaa
open Go.RowKit
section
variable {P:Program} {o:Oper} {E:Operand→Option AV} {H:Hp} {f:Nat} {g:FuncId} {xs:Array Operand} {ts:Array TypeId} {args cs:List AV} {fr:List Nat} {v:AV} {z:Operand}
theorem LO.makeClo {caps:Array Operand} (ho:o.op=.makeFunc (.func g) #[] caps) (hx:caps.toList.map E=cs.map some) (hp:cs.all AV.pure1=true):LO P o E H f [] [] (.clo g cs) H :=
 LO.pure fun X φ w ρ hR=>by
  refine ⟨.func (.func g) #[] (caps.map ρ),by simp [execOp,ho,Instr.makeFunc,Sem.run_pure],.clo g _ cs ?_ fun i u c hu hc=>?_⟩
  ·have:=congrArg List.length hx
   simpa using this
  ·have h1:(caps.toList.map E)[i]?=some (some c):=by rw [hx,List.getElem?_map,hc];rfl
   rw [List.getElem?_map] at h1
   obtain ⟨y,hy,e⟩:=Option.map_eq_some_iff.1 h1
   have hu2:u=ρ y:=by
    have h2:caps[i]?=some y:=by simpa using hy
    rw [Array.getElem?_map,h2] at hu
    exact (Option.some.inj hu).symm
   have hm:y∈o.op.operands:=by
    have h2:y∈caps.toList:=List.mem_of_getElem? hy
    rw [ho]
    simpa [Op.operands] using h2
   rw [hu2]
   exact (hR y hm c e).pure1 (List.all_eq_true.1 hp c (List.mem_of_getElem? hc))
theorem run_callClo {P:Program} {o:Oper} {g:FuncId} {fn:Func} {xs:Array Operand} {ts:Array TypeId} {z:Operand} {ρ:Operand→Value} {w:World} {vs:Array Value} (ho:o.op=.call { callee:=.value z,args:=xs,argTypes:=ts }) (hρ:ρ z=.func (.func g) #[] vs)
 (hf : P.funcs[g]? = some fn) (hname : (fn.name == "runtime.NumGoroutine") = false) (hb : fn.body.isNone = false) : (execOp ρ o).run P w = .ok (.enter g (xs.map ρ ++ vs)) w := by
 have he:=run_callFunc_enter hf hname hb (xs.map ρ++vs) w
 simp only [execOp,ho,resolve,hρ,Deferred.ofValue,Sem.run_bind,Sem.run_pure,Result.andThen_ok,invoke]
 simpa using he
theorem LO.callClo (ho:o.op=.call { callee:=.value z,args:=xs,argTypes:=ts }) (hE:E z=some (.clo g cs)) (h:AFn P g 0 (args++cs) mt v mt) (hF:FnOK P g)
 (hargs:Args E H fr none xs.toList args) (hv:v.pure=true):LO P o E H f [] fr v (frK H fr):=by
 refine ⟨fun r hr=>if_neg hr,fun E' K hE' hK X φ w ρ hR hst hff=>?_⟩
 have hKf:∀ r,r∈fr→K r=H r:=fun r hr=>hK r (.inr hr)
 rw [ovr_frK hKf]
 obtain ⟨fn,hf,hname,hb⟩:=hF
 have hops:o.op.operands=#[z]++xs:=by rw [ho];rfl
 have hz:=hR z _ ((hE' _ (by rw [hops];simp)).trans hE)
 obtain ⟨vs,hρ,hvl,hvs⟩:∃ vs:Array Value,ρ z=.func (.func g) #[] vs∧vs.size=cs.length∧∀ (i:Nat) u c,vs[i]?=some u→cs[i]?=some c→Rep X w (fun _=>none) u c:=by
  generalize ρ z=u at hz
  cases hz with
  | clo _ vs _ hl h=>exact ⟨vs,rfl,hl,h⟩
 unfold OpW
 rw [run_callClo ho hρ hf hname hb]
 obtain ⟨g1,g2⟩:=hargs.rep (K:=K) (X:=X) (φ:=φ) (φ':=mt) (w:=w) (ρ:=ρ) hKf hst (fun x hx a ha=>hR x a ((hE' x (by rw [hops];simp;exact .inr (by simpa using hx))).trans ha)) (fun q h=>by cases h)
 have hxl:(xs.map ρ).size=args.length:=by simp;simpa using g1
 refine (h (frX X K φ fr) mt w (xs.map ρ++vs) (by rw [Array.size_append,List.length_append,hxl,hvl]) (fun i x a hx ha=>?_) ⟨fun r cs h=>(by cases h),fun r r' cs cs' b o o' h=>(by cases h),hst.frz.gl⟩ (fun _ _=>rfl)).mono ?_
 ·rw [Array.getElem?_append] at hx
  rw [List.getElem?_append] at ha
  by_cases hi:i < args.length
  ·rw [if_pos (by omega)] at hx
   rw [if_pos hi] at ha
   exact g2 i x a (by simpa using hx) ha
  ·rw [if_neg (by omega),hxl] at hx
   rw [if_neg hi] at ha
   exact (hvs _ x a hx ha).keep (Nat.le_refl _) (fun _ _ _=>rfl) (fun _ _=>rfl) (fun b _ hx=>hx.1) (fun _ _ h=>h)
 rintro e w' ⟨x,X',φ',rfl,h1,h2,h3⟩
 have hst1:=hst.frz (fr:=fr)
 obtain ⟨k1,k2,_⟩:=nxt_pure hst1 h1 (fun _ _ _ _ _ _ _ _ _ h=>by cases h) (fun _ _ _ _ h=>by cases h)
 refine ⟨x,rfl,X',φ,?_,k2,h3.pure hv⟩
 have hn2:Nxt (frK K fr) (·=f) (frX X K φ fr) φ w (frK K fr) X' φ w' :=
  ⟨h1.os,h1.tape,h1.output,h1.size,fun b hb hn=>h1.same b hb (fun _ _ _ h=>by cases h),h1.bs,h1.xs,fun b hb hx=>(h1.xk b hb hx).imp id fun ⟨_,_,_,h,_⟩=>(by cases h),fun _ _=>rfl,fun r cs b o h1 h2=>.inr ⟨r,cs,o,h1,h2⟩⟩
 exact Nxt.frz.trans hn2 fun _ h=>h
end
end Go.Proofs.Ythbegdeojkdlbaa
namespace Go.Proofs.Ythbegdeojkdlbaa
open Go.RowKit
section
variable {P:Program} {o:Oper} {E:Operand→Option AV} {H:Hp} {f:Nat} {t ty e:TypeId} {x y:Operand} {size bytes:Nat} {zero:List AV}
end
theorem AFn.cases0 {P:Program} {f:FuncId} {k:Nat} {a:AV} {args:List AV} {H H':Hp} {v:AV} (h:∀ (X:Nat→Prop) (φ:Em) (w:World) (x:Value),Rep X w φ x a→∃ a',AFn P f k (a'::args) H v H'∧Rep X w φ x a'):AFn P f k (a::args) H v H':=fun X φ w vals h1 h2 h3 h4=>by
 have hlt:0 < vals.size:=by rw [h1];simp
 obtain ⟨a',k1,k2⟩:=h X φ w vals[0] (h2 0 vals[0] a (by simp [hlt]) rfl)
 exact k1 X φ w vals h1 (fun i x b hx hb=>by
  match i with
  | 0 =>
   simp at hb;subst hb
   have:vals[0]=x:=by simpa [hlt] using hx
   rw [← this];exact k2
  | i + 1=>exact h2 (i + 1) x b hx hb) h3 h4
theorem AFn.arg0x {P:Program} {f:FuncId} {k:Nat} {a a':AV} {args:List AV} {H H':Hp} {v:AV} (h:AFn P f k (a'::args) H v H') (ha:∀ (X:Nat→Prop) (φ:Em) (w:World) (x:Value),Rep X w φ x a→Rep X w φ x a'):AFn P f k (a::args) H v H':=.cases0 fun X φ w x hx=>⟨a',h,ha X φ w x hx⟩
end Go.Proofs.Ythbegdeojkdlbaa
namespace Go.Proofs.Ythbegdeojkdlbaa
theorem Od:type_of% @RW.opd:=@RW.opd
theorem On:type_of% @RW.opn:=@RW.opn
theorem Ud:type_of% @RW.ud:=@RW.ud
theorem Nl:type_of% @RW.nil:=@RW.nil
theorem Wq:type_of% @W.seq:=@W.seq
theorem Wd:type_of% @W.regionD:=@W.regionD
theorem Wt:type_of% @W.cond_t:=@W.cond_t
theorem Wo:type_of% @W.cond_f:=@W.cond_f
theorem Wu:type_of% @W.skip:=@W.skip
theorem Wb:type_of% @W.block:=@W.block
theorem Wx:type_of% @W.exit:=@W.exit
theorem Ld:type_of% @LO.load:=@LO.load
theorem Li:type_of% @LO.load_imm:=@LO.load_imm
theorem Lg:type_of% @LO.load_imm_agg:=@LO.load_imm_agg
theorem Sr:type_of% @LO.store:=@LO.store
theorem Pt:type_of% @LO.pick_t:=@LO.pick_t
theorem Pf0:type_of% @LO.pick_f:=@LO.pick_f
theorem Ia:type_of% @LO.indexAddr:=@LO.indexAddr
theorem Ir:type_of% @LO.indexAddr_ar:=@LO.indexAddr_ar
theorem C0:type_of% @LO.call0:=@LO.call0
theorem C1:type_of% @LO.call1:=@LO.call1
theorem Bs:type_of% @LO.build_st:=@LO.build_st
theorem Cn:type_of% @List.cons_ne_nil:=@List.cons_ne_nil
theorem Nc:type_of% @LO.nilCheck:=@LO.nilCheck
theorem Ci:type_of% @LO.conv_in:=@LO.conv_in
theorem Sl:type_of% @Sp.lit:=@Sp.lit
theorem Tl:type_of% @Tk.lit:=@Tk.lit
theorem Rc:type_of% @RVs.cons:=@RVs.cons
theorem Rt0:type_of% @RV.tmp:=@RV.tmp
theorem Ra0:type_of% @RV.cellA:=@RV.cellA
theorem Rv:type_of% @RVs.nil:=@RVs.nil
theorem Wz:type_of% @W.ret:=@W.ret
theorem Wy:type_of% @W.frz1:=@W.frz1
theorem CN:type_of% @LO.callN:=@LO.callN
theorem Lap:type_of% @LO.append:=@LO.append
theorem Lan:type_of% @LO.append_nil:=@LO.append_nil
theorem Ba:type_of% @Bnd.at:=@Bnd.at
theorem Sso:type_of% @SrcAV.own:=@SrcAV.own
theorem Wv:type_of% @W.frzc:=@W.frzc
theorem aU:type_of% @all_up:=@all_up
theorem aM:type_of% @all_mt:=@all_mt
theorem lC:type_of% @LookR.cons:=@LookR.cons
theorem lN:type_of% @LookR.nil:=@LookR.nil
theorem iW:type_of% @IntWalk.i64_in:=@IntWalk.i64_in
theorem qM {P:Program} {ops:Array Oper} {m0 q0:Nat} {K:Tp→Hp→List (List Nat × List Nat)→Prop} {o:Oper} {l0:List Oper} {T:Tp} {H:Hp} {acc:List (List Nat × List Nat)} {t0:TypeId} {p0:String} {f0:Array Edge} {d0:Nat} {x:Operand} {a:AV} (h0:(o,ev T x)=((⟨some d0,.move x,t0,p0,f0,none⟩:Oper),some a))  (k0:RW P ops m0 K (q0 + 1) l0 (up T d0 (some a)) H (([],[])::acc)):RW P ops m0 K q0 (o::l0) T H acc:=by
 simp only [Prod.mk.injEq] at h0
 obtain ⟨rfl,e1⟩:=h0
 exact RW.opd rfl rfl (LO.move rfl e1) k0
theorem qA {P:Program} {ops:Array Oper} {m0 q0:Nat} {K:Tp→Hp→List (List Nat × List Nat)→Prop} {o:Oper} {l0:List Oper} {T:Tp} {H:Hp} {acc:List (List Nat × List Nat)} {t0:TypeId} {p0:String} {f0:Array Edge} {d0:Nat} {x:Operand} {a:AV} (h0:(o,ev T x)=((⟨some d0,.assign x,t0,p0,f0,none⟩:Oper),some a))  (k0:RW P ops m0 K (q0 + 1) l0 (up T d0 (some a)) H (([],[])::acc)):RW P ops m0 K q0 (o::l0) T H acc:=by
 simp only [Prod.mk.injEq] at h0
 obtain ⟨rfl,e1⟩:=h0
 exact RW.opd rfl rfl (LO.assign rfl e1) k0
theorem qF {P:Program} {ops:Array Oper} {m0 q0:Nat} {K:Tp→Hp→List (List Nat × List Nat)→Prop} {o:Oper} {l0:List Oper} {T:Tp} {H:Hp} {acc:List (List Nat × List Nat)} {t0:TypeId} {p0:String} {f0:Array Edge} {d0:Nat} {x:Operand} {t:TypeId} {size bytes:Nat} {zero:List AV} {fs:List (Nat × Nat × Nat)} {i d s ty r off:Nat} (h0:(o,ev T x)=((⟨some d0,.fieldAddr t x i,t0,p0,f0,none⟩:Oper),some (AV.own r off))) (ht:TyOK P t (.st fs) size bytes zero) (h1:(fs[i]?,Nat.ble 1 s)=(some (d,s,ty),true)) (k0:RW P ops m0 K (q0 + 1) l0 (up T d0 (some (.own r (off + d)))) H (([],[])::acc)):RW P ops m0 K q0 (o::l0) T H acc:=by
 simp only [Prod.mk.injEq] at h0
 obtain ⟨rfl,e1⟩:=h0
 simp only [Prod.mk.injEq] at h1
 obtain ⟨k1,k2⟩:=h1
 exact RW.opd rfl rfl (LO.fieldAddr rfl e1 ht k1 (Nat.le_of_ble_eq_true k2)) k0
theorem qL {P:Program} {ops:Array Oper} {m0 q0:Nat} {K:Tp→Hp→List (List Nat × List Nat)→Prop} {o:Oper} {l0:List Oper} {T:Tp} {H:Hp} {acc:List (List Nat × List Nat)} {t0:TypeId} {p0:String} {f0:Array Edge} {d0:Nat} {x:Operand} {a:AV}{t:TypeId} {lay:Lay} {size bytes:Nat} {zero:List AV} {cs:List AV} {r off:Nat} (h0:(o,ev T x,H r,cs[off]?)=((⟨some d0,.load t x,t0,p0,f0,none⟩:Oper),some (AV.own r off),some cs,some a)) (ht:TyOK P t lay size bytes zero) (hg:lay.agg=false) (k0:RW P ops m0 K (q0 + 1) l0 (up T d0 (some a)) H (([r],[])::acc)):RW P ops m0 K q0 (o::l0) T H acc:=by
 simp only [Prod.mk.injEq] at h0
 obtain ⟨rfl,e1,e2,e3⟩:=h0
 exact RW.opd rfl rfl (LO.load rfl e1 e2 e3 ht hg) k0
theorem qG {P:Program} {ops:Array Oper} {m0 q0:Nat} {K:Tp→Hp→List (List Nat × List Nat)→Prop} {o:Oper} {l0:List Oper} {T:Tp} {H:Hp} {acc:List (List Nat × List Nat)} {t0:TypeId} {p0:String} {f0:Array Edge} {d0:Nat} {x:Operand}{t:TypeId} {lay:Lay} {size bytes:Nat} {zero:List AV} {cs vs:List AV} {r off:Nat} (h0:(o,ev T x,H r)=((⟨some d0,.load t x,t0,p0,f0,none⟩:Oper),some (AV.own r off),some cs)) (ht:TyOK P t lay size bytes zero) (hg:lay.agg=true) (hv:Tk cs off size vs) (k0:RW P ops m0 K (q0 + 1) l0 (up T d0 (some (.agg vs))) H (([r],[])::acc)):RW P ops m0 K q0 (o::l0) T H acc:=by
 simp only [Prod.mk.injEq] at h0
 obtain ⟨rfl,e1,e2⟩:=h0
 exact RW.opd rfl rfl (LO.load_agg rfl e1 e2 ht hg hv) k0
theorem qS {P:Program} {ops:Array Oper} {m0 q0:Nat} {K:Tp→Hp→List (List Nat × List Nat)→Prop} {o:Oper} {l0:List Oper} {T:Tp} {H:Hp} {acc:List (List Nat × List Nat)} {t0:TypeId} {p0:String} {f0:Array Edge} {x y:Operand} {a:AV}{t:TypeId} {lay:Lay} {size bytes:Nat} {zero:List AV} {cs cs':List AV} {r off:Nat} (h0:(o,ev T x,ev T y,H r,a.okb)=((⟨none,.store t x y,t0,p0,f0,none⟩:Oper),some (AV.own r off),some a,some cs,true)) (ht:TyOK P t lay size bytes zero) (hs:Sp cs off a.cells cs') (h1:(a.cells.length,Nat.ble 1 size)=(size,true)) (k0:RW P ops m0 K (q0 + 1) l0 T (up H r (some cs')) (([],[r])::acc)):RW P ops m0 K q0 (o::l0) T H acc:=by
 simp only [Prod.mk.injEq] at h0
 obtain ⟨rfl,e1,e2,e3,e4⟩:=h0
 simp only [Prod.mk.injEq] at h1
 obtain ⟨k1,k2⟩:=h1
 exact RW.opn rfl rfl (LO.store rfl e1 e2 e3 e4 ht k1 (Nat.le_of_ble_eq_true k2) hs) k0
theorem qE {P:Program} {ops:Array Oper} {m0 q0:Nat} {K:Tp→Hp→List (List Nat × List Nat)→Prop} {o:Oper} {l0:List Oper} {T:Tp} {H:Hp} {acc:List (List Nat × List Nat)} {t0:TypeId} {p0:String} {f0:Array Edge} {d0:Nat} {x y:Operand} {t ty:TypeId} {k:IntKind} {m n:Int} (h0:(o,ev T x,ev T y)=((⟨some d0,.binOp .eql t x y ty,t0,p0,f0,none⟩:Oper),some (AV.base (.int k m)),some (AV.base (.int k n))))  (k0:RW P ops m0 K (q0 + 1) l0 (up T d0 (some (.base (.bool (m == n))))) H (([],[])::acc)):RW P ops m0 K q0 (o::l0) T H acc:=by
 simp only [Prod.mk.injEq] at h0
 obtain ⟨rfl,e1,e2⟩:=h0
 exact RW.opd rfl rfl (LO.eql rfl e1 e2) k0
theorem qN {P:Program} {ops:Array Oper} {m0 q0:Nat} {K:Tp→Hp→List (List Nat × List Nat)→Prop} {o:Oper} {l0:List Oper} {T:Tp} {H:Hp} {acc:List (List Nat × List Nat)} {t0:TypeId} {p0:String} {f0:Array Edge} {d0:Nat} {x y:Operand} {t ty:TypeId} {k:IntKind} {m n:Int} (h0:(o,ev T x,ev T y)=((⟨some d0,.binOp .neq t x y ty,t0,p0,f0,none⟩:Oper),some (AV.base (.int k m)),some (AV.base (.int k n))))  (k0:RW P ops m0 K (q0 + 1) l0 (up T d0 (some (.base (.bool (m != n))))) H (([],[])::acc)):RW P ops m0 K q0 (o::l0) T H acc:=by
 simp only [Prod.mk.injEq] at h0
 obtain ⟨rfl,e1,e2⟩:=h0
 exact RW.opd rfl rfl (LO.neq rfl e1 e2) k0
theorem qK {P:Program} {ops:Array Oper} {m0 q0:Nat} {K:Tp→Hp→List (List Nat × List Nat)→Prop} {o:Oper} {l0:List Oper} {T:Tp} {H:Hp} {acc:List (List Nat × List Nat)} {t0:TypeId} {p0:String} {f0:Array Edge} {d0:Nat} {x y:Operand} {t ty:TypeId} {k:IntKind} {m n:Int} (h0:(o,ev T x,ev T y)=((⟨some d0,.binOp .lss t x y ty,t0,p0,f0,none⟩:Oper),some (AV.base (.int k m)),some (AV.base (.int k n))))  (k0:RW P ops m0 K (q0 + 1) l0 (up T d0 (some (.base (.bool (decide (m < n)))))) H (([],[])::acc)):RW P ops m0 K q0 (o::l0) T H acc:=by
 simp only [Prod.mk.injEq] at h0
 obtain ⟨rfl,e1,e2⟩:=h0
 exact RW.opd rfl rfl (LO.lss rfl e1 e2) k0
theorem qP {P:Program} {ops:Array Oper} {m0 q0:Nat} {K:Tp→Hp→List (List Nat × List Nat)→Prop} {o:Oper} {l0:List Oper} {T:Tp} {H:Hp} {acc:List (List Nat × List Nat)} {t0:TypeId} {p0:String} {f0:Array Edge} {d0:Nat} {c x y:Operand} {b:Bool} {a:AV} (h0:(o,ev T c)=((⟨some d0,.pick c x y,t0,p0,f0,none⟩:Oper),some (AV.base (.bool b)))) (hb:b=false) (hy:ev T y=some a) (k0:RW P ops m0 K (q0 + 1) l0 (up T d0 (some a)) H (([],[])::acc)):RW P ops m0 K q0 (o::l0) T H acc:=by
 simp only [Prod.mk.injEq] at h0
 obtain ⟨rfl,e1⟩:=h0
 exact RW.opd rfl rfl (LO.pick_f rfl e1 hb hy) k0
theorem qT {P:Program} {ops:Array Oper} {m0 q0:Nat} {K:Tp→Hp→List (List Nat × List Nat)→Prop} {o:Oper} {l0:List Oper} {T:Tp} {H:Hp} {acc:List (List Nat × List Nat)} {t0:TypeId} {p0:String} {f0:Array Edge} {d0:Nat} {c x y:Operand} {b:Bool} {a:AV} (h0:(o,ev T c)=((⟨some d0,.pick c x y,t0,p0,f0,none⟩:Oper),some (AV.base (.bool b)))) (hb:b=true) (hy:ev T x=some a) (k0:RW P ops m0 K (q0 + 1) l0 (up T d0 (some a)) H (([],[])::acc)):RW P ops m0 K q0 (o::l0) T H acc:=by
 simp only [Prod.mk.injEq] at h0
 obtain ⟨rfl,e1⟩:=h0
 exact RW.opd rfl rfl (LO.pick_t rfl e1 hb hy) k0
theorem qX {P:Program} {ops:Array Oper} {m0 q0:Nat} {K:Tp→Hp→List (List Nat × List Nat)→Prop} {o:Oper} {l0:List Oper} {T:Tp} {H:Hp} {acc:List (List Nat × List Nat)} {t0:TypeId} {p0:String} {f0:Array Edge} {d0:Nat} {x:Operand} {a:AV} {i:Nat} {vs:List AV} (h0:(o,ev T x,vs[i]?)=((⟨some d0,.extract x i,t0,p0,f0,none⟩:Oper),some (AV.tup vs),some a))  (k0:RW P ops m0 K (q0 + 1) l0 (up T d0 (some a)) H (([],[])::acc)):RW P ops m0 K q0 (o::l0) T H acc:=by
 simp only [Prod.mk.injEq] at h0
 obtain ⟨rfl,e1,e2⟩:=h0
 exact RW.opd rfl rfl (LO.extract rfl e1 e2) k0
theorem qB {P:Program} {ops:Array Oper} {m0 q0:Nat} {K:Tp→Hp→List (List Nat × List Nat)→Prop} {o:Oper} {l0:List Oper} {T:Tp} {H:Hp} {acc:List (List Nat × List Nat)} {t0:TypeId} {p0:String} {f0:Array Edge} {d0:Nat} {t:TypeId} {lay:Lay} {size bytes:Nat} {zero:List AV} (h0:(o)=((⟨some d0,.alloc t,t0,p0,f0,none⟩:Oper))) (ht:TyOK P t lay size bytes zero) (k0:RW P ops m0 K (q0 + 1) l0 (up T d0 (some (.own (m0 + q0) 0))) (up H (m0 + q0) (some zero)) (([],[m0 + q0])::acc)):RW P ops m0 K q0 (o::l0) T H acc:=by
 obtain rfl:=h0
 exact RW.opd rfl rfl (LO.alloc rfl ht) k0
theorem qC {P:Program} {ops:Array Oper} {m0 q0:Nat} {K:Tp→Hp→List (List Nat × List Nat)→Prop} {o:Oper} {l0:List Oper} {T:Tp} {H:Hp} {acc:List (List Nat × List Nat)} {t0:TypeId} {p0:String} {f0:Array Edge} {d0:Nat} {x:Operand} {a:AV} {t:TypeId} (h0:(o,ev T x,a.okb)=((⟨some d0,.box t x,t0,p0,f0,none⟩:Oper),some a,true))  (k0:RW P ops m0 K (q0 + 1) l0 (up T d0 (some (.own (m0 + q0) 0))) (up H (m0 + q0) (some a.cells)) (([],[m0 + q0])::acc)):RW P ops m0 K q0 (o::l0) T H acc:=by
 simp only [Prod.mk.injEq] at h0
 obtain ⟨rfl,e1,e2⟩:=h0
 exact RW.opd rfl rfl (LO.box rfl e1 e2) k0
theorem qH {P:Program} {ops:Array Oper} {m0 q0:Nat} {K:Tp→Hp→List (List Nat × List Nat)→Prop} {o:Oper} {l0:List Oper} {T:Tp} {H:Hp} {acc:List (List Nat × List Nat)} {t0:TypeId} {p0:String} {f0:Array Edge} {d0:Nat} {x:Operand} {a:AV} {t:TypeId} {e size bytes len:Nat} {zero cs:List AV} (h0:(o,ev T x,a.isl?)=((⟨some d0,.call { callee:=.builtin .len,args:=#[x],argTypes:=#[t] },t0,p0,f0,none⟩:Oper),some a,some (cs,len))) (ht:TyOK P t (.sl e) size bytes zero) (k0:RW P ops m0 K (q0 + 1) l0 (up T d0 (some (.base (.int .i64 (len:Int))))) H (([],[])::acc)):RW P ops m0 K q0 (o::l0) T H acc:=by
 simp only [Prod.mk.injEq] at h0
 obtain ⟨rfl,e1,e2⟩:=h0
 exact RW.opd rfl rfl (LO.len_isl rfl e1 e2 ht) k0
theorem qJ {P:Program} {ops:Array Oper} {m0 q0:Nat} {K:Tp→Hp→List (List Nat × List Nat)→Prop} {o:Oper} {l0:List Oper} {T:Tp} {H:Hp} {acc:List (List Nat × List Nat)} {t0:TypeId} {p0:String} {f0:Array Edge} {d0:Nat} {x y:Operand} {a:AV} {t:TypeId} {e size bytes len sz by' j:Nat} {zero cs z':List AV} {l':Lay} {k:IntKind} {i:Int} (h0:(o,ev T x,a.isl?,ev T y)=((⟨some d0,.indexAddr t x y,t0,p0,f0,none⟩:Oper),some a,some (cs,len),some (AV.base (.int k i)))) (hi:i=(j:Int)) (ht:TyOK P t (.sl e) size bytes zero) (he:TyOK P e l' sz by' z') (hj:j < len) (k0:RW P ops m0 K (q0 + 1) l0 (up T d0 (some (.imm cs (j * sz)))) H (([],[])::acc)):RW P ops m0 K q0 (o::l0) T H acc:=by
 simp only [Prod.mk.injEq] at h0
 obtain ⟨rfl,e1,e2,e3⟩:=h0
 exact RW.opd rfl rfl (LO.indexAddr_isl rfl e1 e2 e3 hi ht he hj) k0
theorem qZ {P:Program} {ops:Array Oper} {m0 q0:Nat} {K:Tp→Hp→List (List Nat × List Nat)→Prop} {o:Oper} {l0:List Oper} {T:Tp} {H:Hp} {acc:List (List Nat × List Nat)} {t0:TypeId} {p0:String} {f0:Array Edge} {d0:Nat} {x y:Operand} {t ty:TypeId} {k:IntKind} {m n:Int} (h0:(o,ev T x,ev T y)=((⟨some d0,.binOp .add t x y ty,t0,p0,f0,none⟩:Oper),some (AV.base (.int k m)),some (AV.base (.int k n)))) (hw:k.wrap (m + n)=m + n) (k0:RW P ops m0 K (q0 + 1) l0 (up T d0 (some (.base (.int k (m + n))))) H (([],[])::acc)):RW P ops m0 K q0 (o::l0) T H acc:=by
 simp only [Prod.mk.injEq] at h0
 obtain ⟨rfl,e1,e2⟩:=h0
 exact RW.opd rfl rfl (LO.add_in rfl e1 e2 hw) k0
theorem qArgs {E:Operand→Option AV} {H:Hp} {fr:List Nat} {r:Option Nat}:∀ {xs:List Operand} {zs:List AV},xs.map E=zs.map some→zs.all AV.pure=true→Args E H fr r xs zs
 | [],[],_,_=>.nil
 | x::xs,a::zs,h,hp=>by
  simp only [List.map_cons,List.cons.injEq] at h
  simp only [List.all_cons,Bool.and_eq_true] at hp
  exact .cons h.1 (.pure hp.1) (qArgs h.2 hp.2)
 | [],_::_,h,_=>by cases h
 | _::_,[],h,_=>by cases h
theorem qY {P:Program} {ops:Array Oper} {m0 q0:Nat} {K:Tp→Hp→List (List Nat × List Nat)→Prop} {o:Oper} {l0:List Oper} {T:Tp} {H:Hp} {acc:List (List Nat × List Nat)} {t0:TypeId} {p0:String} {f0:Array Edge} {d0:Nat} {g:FuncId} {xs:Array Operand} {ts:Array TypeId} {v:AV} {args:List AV} (h0:(o,ev T (.func g))=((⟨some d0,.call { callee:=.value (.func g),args:=xs,argTypes:=ts },t0,p0,f0,none⟩:Oper),some (AV.base (.func (.func g) #[] #[])))) (hc:AFn P g 0 args mt v mt) (hF:FnOK P g) (h1:(xs.toList.map (ev T),args.all AV.pure,v.pure)=(args.map some,true,true)) (k0:RW P ops m0 K (q0 + 1) l0 (up T d0 (some v)) (frK H []) (([],[])::acc)):RW P ops m0 K q0 (o::l0) T H acc:=by
 simp only [Prod.mk.injEq] at h0
 obtain ⟨rfl,e1⟩:=h0
 simp only [Prod.mk.injEq] at h1
 obtain ⟨k1,k2,k3⟩:=h1
 exact RW.opd rfl rfl (LO.call0 (fr:=[]) rfl e1 hc hF (qArgs k1 k2) k3) k0
theorem qW {P:Program} {k n m:Nat} {T:Tp} {H:Hp} {K:Exit→Nat→Tp→Hp→Prop} {ops:Array Oper} {id:Nat} (s m':Nat) (h1:(Nat.ble m s,s + ops.size,dstsLt ops.toList n)=(true,m',true)) (h:RW P ops s (fun T' H' _=>K .normal m' T' H') 0 ops.toList T H []):W P k n (.region id ops false) m T H K:=by
 simp only [Prod.mk.injEq] at h1
 exact W.region s m' (Nat.le_of_ble_eq_true h1.1) h1.2.1 h1.2.2 h
theorem qD {P:Program} {ops:Array Oper} {m i:Nat} {K:Tp→Hp→List (List Nat × List Nat)→Prop} {o:Oper} {l:List Oper} {T:Tp} {H:Hp} {acc:List (List Nat × List Nat)} {d j t:Nat} {b x:Bool} (h:(o.guard,dstAt ops j,T t)=(some (j,b),some t,some (AV.base (.bool x)))) (hx:x=!b) (hd:o.dst=some d) (k:RW P ops m K (i + 1) l (up T d (some (.base undef))) H (([],[])::acc)):RW P ops m K i (o::l) T H acc:=by
 simp only [Prod.mk.injEq] at h
 exact RW.sd h.1 h.2.1 h.2.2 hx hd k
theorem qU {P:Program} {ops:Array Oper} {m i:Nat} {K:Tp→Hp→List (List Nat × List Nat)→Prop} {o:Oper} {l:List Oper} {T:Tp} {H H':Hp} {acc:List (List Nat × List Nat)} {rd wr:List Nat} {v:AV} {d j t:Nat} {b x:Bool} (h:(o.guard,dstAt ops j,T t)=(some (j,b),some t,some (AV.base (.bool x)))) (hx:x=b) (hd:o.dst=some d) (h2:LO P o (ev T) H (m + i) rd wr v H') (k:RW P ops m K (i + 1) l (up T d (some v)) H' ((rd,wr)::acc)):RW P ops m K i (o::l) T H acc:=by
 simp only [Prod.mk.injEq] at h
 exact RW.gd h.1 h.2.1 h.2.2 hx hd h2 k
theorem kR {L:List (Nat × Nat)} {m:Nat} {H:Hp} {r:Nat} {cs:List AV} (h:(keyIn L r,H (sg L m r),cs.all AV.pure1)=(true,some cs,true)):RenH L m H r cs:=by
 simp only [Prod.mk.injEq] at h
 exact ⟨h.1,_,h.2.1,.inr ⟨rfl,h.2.2⟩⟩
theorem kI {L:List (Nat × Nat)} {m:Nat} {H:Hp} {r:Nat} {cs:List AV} (h:(keyIn L r,H (sg L m r))=(true,some (cs.map (ren1 (sg L m))))):RenH L m H r cs:=by
 simp only [Prod.mk.injEq] at h
 exact ⟨h.1,_,h.2,.inl rfl⟩
theorem lR {σ:Nat→Nat} {T:Tp} {t:Nat} {v:AV} (h:(T t,v.pure)=(some v,true)):RenT σ T t v:=by
 simp only [Prod.mk.injEq] at h
 exact .inl h
def noTup:AV→Bool
 | .tup _=>false
 | _=>true
theorem lI {σ:Nat→Nat} {T:Tp} {t:Nat} {v:AV} (h:(T t,noTup v)=(some (ren2 σ v),true)):RenT σ T t v:=by
 simp only [Prod.mk.injEq] at h
 exact .inr ⟨h.1,fun vs e=>by rw [e] at h;cases h.2⟩
theorem gM {P:Program} {ops:Array Oper} {m0 q0:Nat} {K:Tp→Hp→List (List Nat × List Nat)→Prop} {o:Oper} {l0:List Oper} {T:Tp} {H:Hp} {acc:List (List Nat × List Nat)} {t0:TypeId} {p0:String} {f0:Array Edge} {d0 jg tg:Nat} {bg xg:Bool} {x:Operand} {a:AV} (h0:(o,dstAt ops jg,T tg,ev T x)=((⟨some d0,.move x,t0,p0,f0,some (jg,bg)⟩:Oper),some tg,some (AV.base (.bool xg)),some a)) (hx:xg=bg)  (k0:RW P ops m0 K (q0 + 1) l0 (up T d0 (some a)) H (([],[])::acc)):RW P ops m0 K q0 (o::l0) T H acc:=by
 simp only [Prod.mk.injEq] at h0
 obtain ⟨rfl,g1,g2,e1⟩:=h0
 exact RW.gd rfl g1 g2 hx rfl (LO.move rfl e1) k0
theorem gG {P:Program} {ops:Array Oper} {m0 q0:Nat} {K:Tp→Hp→List (List Nat × List Nat)→Prop} {o:Oper} {l0:List Oper} {T:Tp} {H:Hp} {acc:List (List Nat × List Nat)} {t0:TypeId} {p0:String} {f0:Array Edge} {d0 jg tg:Nat} {bg xg:Bool} {x:Operand}{t:TypeId} {lay:Lay} {size bytes:Nat} {zero:List AV} {cs vs:List AV} {r off:Nat} (h0:(o,dstAt ops jg,T tg,ev T x,H r)=((⟨some d0,.load t x,t0,p0,f0,some (jg,bg)⟩:Oper),some tg,some (AV.base (.bool xg)),some (AV.own r off),some cs)) (hx:xg=bg) (ht:TyOK P t lay size bytes zero) (hg:lay.agg=true) (hv:Tk cs off size vs) (k0:RW P ops m0 K (q0 + 1) l0 (up T d0 (some (.agg vs))) H (([r],[])::acc)):RW P ops m0 K q0 (o::l0) T H acc:=by
 simp only [Prod.mk.injEq] at h0
 obtain ⟨rfl,g1,g2,e1,e2⟩:=h0
 exact RW.gd rfl g1 g2 hx rfl (LO.load_agg rfl e1 e2 ht hg hv) k0
theorem gE {P:Program} {ops:Array Oper} {m0 q0:Nat} {K:Tp→Hp→List (List Nat × List Nat)→Prop} {o:Oper} {l0:List Oper} {T:Tp} {H:Hp} {acc:List (List Nat × List Nat)} {t0:TypeId} {p0:String} {f0:Array Edge} {d0 jg tg:Nat} {bg xg:Bool} {x y:Operand} {t ty:TypeId} {k:IntKind} {m n:Int} (h0:(o,dstAt ops jg,T tg,ev T x,ev T y)=((⟨some d0,.binOp .eql t x y ty,t0,p0,f0,some (jg,bg)⟩:Oper),some tg,some (AV.base (.bool xg)),some (AV.base (.int k m)),some (AV.base (.int k n)))) (hx:xg=bg)  (k0:RW P ops m0 K (q0 + 1) l0 (up T d0 (some (.base (.bool (m == n))))) H (([],[])::acc)):RW P ops m0 K q0 (o::l0) T H acc:=by
 simp only [Prod.mk.injEq] at h0
 obtain ⟨rfl,g1,g2,e1,e2⟩:=h0
 exact RW.gd rfl g1 g2 hx rfl (LO.eql rfl e1 e2) k0
theorem gK {P:Program} {ops:Array Oper} {m0 q0:Nat} {K:Tp→Hp→List (List Nat × List Nat)→Prop} {o:Oper} {l0:List Oper} {T:Tp} {H:Hp} {acc:List (List Nat × List Nat)} {t0:TypeId} {p0:String} {f0:Array Edge} {d0 jg tg:Nat} {bg xg:Bool} {x y:Operand} {t ty:TypeId} {k:IntKind} {m n:Int} (h0:(o,dstAt ops jg,T tg,ev T x,ev T y)=((⟨some d0,.binOp .lss t x y ty,t0,p0,f0,some (jg,bg)⟩:Oper),some tg,some (AV.base (.bool xg)),some (AV.base (.int k m)),some (AV.base (.int k n)))) (hx:xg=bg)  (k0:RW P ops m0 K (q0 + 1) l0 (up T d0 (some (.base (.bool (decide (m < n)))))) H (([],[])::acc)):RW P ops m0 K q0 (o::l0) T H acc:=by
 simp only [Prod.mk.injEq] at h0
 obtain ⟨rfl,g1,g2,e1,e2⟩:=h0
 exact RW.gd rfl g1 g2 hx rfl (LO.lss rfl e1 e2) k0
theorem gY {P:Program} {ops:Array Oper} {m0 q0:Nat} {K:Tp→Hp→List (List Nat × List Nat)→Prop} {o:Oper} {l0:List Oper} {T:Tp} {H:Hp} {acc:List (List Nat × List Nat)} {t0:TypeId} {p0:String} {f0:Array Edge} {d0 jg tg:Nat} {bg xg:Bool} {g:FuncId} {xs:Array Operand} {ts:Array TypeId} {v:AV} {args:List AV} (h0:(o,dstAt ops jg,T tg,ev T (.func g))=((⟨some d0,.call { callee:=.value (.func g),args:=xs,argTypes:=ts },t0,p0,f0,some (jg,bg)⟩:Oper),some tg,some (AV.base (.bool xg)),some (AV.base (.func (.func g) #[] #[])))) (hx:xg=bg) (hc:AFn P g 0 args mt v mt) (hF:FnOK P g) (h1:(xs.toList.map (ev T),args.all AV.pure,v.pure)=(args.map some,true,true)) (k0:RW P ops m0 K (q0 + 1) l0 (up T d0 (some v)) (frK H []) (([],[])::acc)):RW P ops m0 K q0 (o::l0) T H acc:=by
 simp only [Prod.mk.injEq] at h0
 obtain ⟨rfl,g1,g2,e1⟩:=h0
 simp only [Prod.mk.injEq] at h1
 obtain ⟨k1,k2,k3⟩:=h1
 exact RW.gd rfl g1 g2 hx rfl (LO.call0 (fr:=[]) rfl e1 hc hF (qArgs k1 k2) k3) k0
theorem qGt {P:Program} {ops:Array Oper} {m0 q0:Nat} {K:Tp→Hp→List (List Nat × List Nat)→Prop} {o:Oper} {l0:List Oper} {T:Tp} {H:Hp} {acc:List (List Nat × List Nat)} {t0:TypeId} {p0:String} {f0:Array Edge} {d0:Nat} {x y:Operand} {t ty:TypeId} {k:IntKind} {m n:Int} (h0:(o,ev T x,ev T y)=((⟨some d0,.binOp .gtr t x y ty,t0,p0,f0,none⟩:Oper),some (AV.base (.int k m)),some (AV.base (.int k n))))  (k0:RW P ops m0 K (q0 + 1) l0 (up T d0 (some (.base (.bool (decide (n < m)))))) H (([],[])::acc)):RW P ops m0 K q0 (o::l0) T H acc:=by
 simp only [Prod.mk.injEq] at h0
 obtain ⟨rfl,e1,e2⟩:=h0
 exact RW.opd rfl rfl (LO.gtr rfl e1 e2) k0
theorem qGe {P:Program} {ops:Array Oper} {m0 q0:Nat} {K:Tp→Hp→List (List Nat × List Nat)→Prop} {o:Oper} {l0:List Oper} {T:Tp} {H:Hp} {acc:List (List Nat × List Nat)} {t0:TypeId} {p0:String} {f0:Array Edge} {d0:Nat} {x y:Operand} {t ty:TypeId} {k:IntKind} {m n:Int} (h0:(o,ev T x,ev T y)=((⟨some d0,.binOp .geq t x y ty,t0,p0,f0,none⟩:Oper),some (AV.base (.int k m)),some (AV.base (.int k n))))  (k0:RW P ops m0 K (q0 + 1) l0 (up T d0 (some (.base (.bool (decide (n≤m)))))) H (([],[])::acc)):RW P ops m0 K q0 (o::l0) T H acc:=by
 simp only [Prod.mk.injEq] at h0
 obtain ⟨rfl,e1,e2⟩:=h0
 exact RW.opd rfl rfl (LO.geq rfl e1 e2) k0
theorem qLe {P:Program} {ops:Array Oper} {m0 q0:Nat} {K:Tp→Hp→List (List Nat × List Nat)→Prop} {o:Oper} {l0:List Oper} {T:Tp} {H:Hp} {acc:List (List Nat × List Nat)} {t0:TypeId} {p0:String} {f0:Array Edge} {d0:Nat} {x y:Operand} {t ty:TypeId} {k:IntKind} {m n:Int} (h0:(o,ev T x,ev T y)=((⟨some d0,.binOp .leq t x y ty,t0,p0,f0,none⟩:Oper),some (AV.base (.int k m)),some (AV.base (.int k n))))  (k0:RW P ops m0 K (q0 + 1) l0 (up T d0 (some (.base (.bool (decide (m≤n)))))) H (([],[])::acc)):RW P ops m0 K q0 (o::l0) T H acc:=by
 simp only [Prod.mk.injEq] at h0
 obtain ⟨rfl,e1,e2⟩:=h0
 exact RW.opd rfl rfl (LO.leq rfl e1 e2) k0
theorem kP {L:List (Nat × Nat)} {m:Nat} {H:Hp} {r:Nat} {cs:List AV} (h:(keyIn L r,H (sg L m r))=(true,some cs)) (h2:cs.all AV.pure1=true):RenH L m H r cs:=by
 simp only [Prod.mk.injEq] at h
 exact ⟨h.1,_,h.2,.inr ⟨rfl,h2⟩⟩
end Go.Proofs.Ythbegdeojkdlbaa
