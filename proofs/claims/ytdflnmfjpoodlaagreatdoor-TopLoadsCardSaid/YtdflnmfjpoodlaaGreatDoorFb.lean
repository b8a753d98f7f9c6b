/-
  Fabrics in plain words: what is alive, what works, distances by rounds and by a queue. Fabrics: what is alive, what works. Fabrics: which links work, by both texts.
-/
import Derived.Test.YtdflnmfjpoodlaaGreatDoorMab
import Derived.Test.YtdflnmfjpoodlaaGreatDoorLw
namespace Go.Proofs.YtdflnmfjpoodlaaGreatDoor
structure Lnk where
 a:Int
 b:Int
 c:Int
structure Fab where
 sw:Int
 links:List Lnk
 down:List Bool
 dead:List Bool
def aliveB (f:Fab) (s:Int):Bool:=decide (0≤s) && (decide (s < f.dead.length) && !(f.dead.getD s.toNat true))
theorem aliveB_at {f:Fab} {j:Nat} (h:j < f.dead.length):aliveB f j=!f.dead[j]:=by
 unfold aliveB
 have h1:(0:Int)≤(j:Int):=by omega
 have h2:(j:Int) < f.dead.length:=by omega
 simp [h1,h2,h]
theorem aliveB_lt {f:Fab} {s:Int} (h:aliveB f s=true):0≤s∧s < f.dead.length:=by
 unfold aliveB at h
 simp only [Bool.and_eq_true,decide_eq_true_eq] at h
 exact ⟨h.1,h.2.1⟩
def worksB (f:Fab) (k:Int):Bool:=decide (0≤k) && (decide (k < f.links.length) && (decide (k < f.down.length) && (!(f.down.getD k.toNat true) && (match f.links[k.toNat]? with
 | some x=>aliveB f x.a && aliveB f x.b
 | none=>false))))
theorem worksB_at {f:Fab} {j:Nat} (h1:j < f.links.length) (h2:j < f.down.length):worksB f j=(!f.down[j] && (aliveB f f.links[j].a && aliveB f f.links[j].b)):=by
 unfold worksB
 simp [h1,h2]
theorem worksB_ends {f:Fab} {i:Nat} {l:Lnk} (h:worksB f i=true) (hl:f.links[i]?=some l):aliveB f l.a=true∧aliveB f l.b=true:=by
 unfold worksB at h
 simp only [Bool.and_eq_true,Int.toNat_natCast,hl] at h
 exact h.2.2.2.2
def gI (d:List Int) (x:Int):Int:=if 0≤x then d.getD x.toNat (-1) else -1
def sI (d:List Int) (x v:Int):List Int:=if 0≤x then d.set x.toNat v else d
theorem gI_nat (d:List Int) (k:Nat):gI d (k:Int)=d.getD k (-1):=by unfold gI;rw [if_pos (by omega)];simp
theorem gI_at {d:List Int} {k:Nat} (h:k < d.length):gI d (k:Int)=d[k]:=by rw [gI_nat];simp [h]
theorem sI_len (d:List Int) (x v:Int):(sI d x v).length=d.length:=by unfold sI;split<;>simp
theorem sI_nat (d:List Int) (k:Nat) (v:Int):sI d (k:Int) v=d.set k v:=by unfold sI;rw [if_pos (by omega)];simp
theorem gI_out {d:List Int} {x:Int} (h:x < 0∨(d.length:Int)≤x):gI d x=-1:=by
 unfold gI
 split
 ·have hx:d.length≤x.toNat:=by omega
  simp [hx]
 ·rfl
theorem gI_sI_same {d:List Int} {x v:Int} (h0:0≤x) (h1:x < d.length):gI (sI d x v) x=v:=by
 obtain ⟨k,rfl⟩:=Int.eq_ofNat_of_zero_le h0
 rw [sI_nat,gI_nat]
 have:k < d.length:=by omega
 simp [this]
theorem gI_sI_ne {d:List Int} {x y v:Int} (h:y≠x):gI (sI d x v) y=gI d y:=by
 unfold gI sI
 split
 ·split
  ·have:x.toNat≠y.toNat:=by omega
   simp [List.getElem?_set_ne this]
  ·rfl
 ·rfl
theorem gI_ext {d e:List Int} (hl:d.length=e.length) (h:∀ x,gI d x=gI e x):d=e:=by
 refine List.ext_getElem hl fun i h1 h2=>?_
 have:=h i
 rwa [gI_at h1,gI_at h2] at this
theorem gI_rep (n:Nat) (x:Int):gI (List.replicate n (-1)) x=-1:=by
 unfold gI
 split
 ·by_cases h:x.toNat < n<;>simp [h]
 ·rfl
def Edge (f:Fab) (W:Nat→Bool) (x y:Int):Prop:=∃ i l,f.links[i]?=some l∧W i=true∧((l.a=x∧l.b=y)∨(l.b=x∧l.a=y))
theorem Edge.symm {f:Fab} {W:Nat→Bool} {x y:Int} (h:Edge f W x y):Edge f W y x:=by
 obtain ⟨i,l,h1,h2,h3⟩:=h
 exact ⟨i,l,h1,h2,h3.elim (fun h=>.inr ⟨h.2,h.1⟩) (fun h=>.inl ⟨h.2,h.1⟩)⟩
def Wf (f:Fab) (W:Nat→Bool) (n:Nat):Prop:=∀ (i:Nat) (l:Lnk),f.links[i]?=some l→W i=true→0≤l.a∧l.a < (n:Int)∧0≤l.b∧l.b < (n:Int)
theorem Wf.edge {f:Fab} {W:Nat→Bool} {n:Nat} {x y:Int} (h:Wf f W n) (he:Edge f W x y):0≤x∧x < n∧0≤y∧y < n:=by
 obtain ⟨i,l,h1,h2,⟨rfl,rfl⟩|⟨rfl,rfl⟩⟩:=he
 ·exact h i l h1 h2
 ·obtain ⟨a,b,c,d⟩:=h i l h1 h2;exact ⟨c,d,a,b⟩
structure DBase (f:Fab) (W:Nat→Bool) (n:Nat) (to:Int) (d:List Int):Prop where
 len:d.length=n
 src:gI d to=0
 ge:∀ x,-1≤gI d x
 zero:∀ x,gI d x=0→x=to
 pred:∀ x,0 < gI d x→∃ y,Edge f W x y∧gI d y=gI d x - 1
structure IsDist (f:Fab) (W:Nat→Bool) (n:Nat) (to:Int) (d:List Int):Prop extends DBase f W n to d where
 step:∀ x y,Edge f W x y→0≤gI d x→0≤gI d y∧gI d y≤gI d x + 1
section
variable {f:Fab} {W:Nat→Bool} {n:Nat} {to:Int} {d e:List Int}
theorem IsDist.le (h:IsDist f W n to d) (k:DBase f W n to e):∀ (m:Nat) x,gI e x=m→0≤gI d x∧gI d x≤m:=by
 intro m
 induction m with
 | zero=>intro x hx;rw [k.zero x (by simpa using hx),h.src];simp
 | succ m ih =>
  intro x hx
  obtain ⟨y,hy,h1⟩:=k.pred x (by omega)
  have:=ih y (by omega)
  have:=h.step y x hy.symm this.1
  omega
theorem IsDist.eq (h:IsDist f W n to d) (k:IsDist f W n to e):d=e:=by
 refine gI_ext (by rw [h.len,k.len]) fun x=>?_
 have h1:=h.ge x
 have h2:=k.ge x
 rcases Int.lt_or_le (gI d x) 0 with h3|h3
 ·rcases Int.lt_or_le (gI e x) 0 with h4|h4
  ·omega
  ·have:=h.le k.toDBase (gI e x).toNat x (by omega);omega
 ·have h5:=k.le h.toDBase (gI d x).toNat x (by omega)
  have h6:=h.le k.toDBase (gI e x).toNat x (by omega)
  omega
theorem DBase.label {x y:Int} (h:DBase f W n to d) (he:Edge f W x y) (hx:0≤gI d x) (hy:gI d y < 0) (h0:0≤y) (h1:y < n):DBase f W n to (sI d y (gI d x + 1)):=by
 have hs:gI (sI d y (gI d x + 1)) y=gI d x + 1:=gI_sI_same h0 (by rw [h.len];exact h1)
 have hn:∀ z,z≠y→gI (sI d y (gI d x + 1)) z=gI d z:=fun z hz=>gI_sI_ne hz
 have hty:to≠y:=fun e=>by rw [← e,h.src] at hy;omega
 refine ⟨by rw [sI_len,h.len],by rw [hn to hty,h.src],fun z=>?_,fun z hz=>?_,fun z hz=>?_⟩
 ·by_cases e:z=y
  ·rw [e,hs];omega
  ·rw [hn z e];exact h.ge z
 ·by_cases e:z=y
  ·rw [e,hs] at hz;omega
  ·rw [hn z e] at hz;exact h.zero z hz
 ·by_cases e:z=y
  ·subst e
   refine ⟨x,he.symm,?_⟩
   rw [hs,hn x (fun e=>by rw [e] at hx;omega)];omega
  ·rw [hn z e] at hz ⊢
   obtain ⟨u,hu,hu2⟩:=h.pred z hz
   refine ⟨u,hu,?_⟩
   rw [hn u (fun e=>by rw [e] at hu2;omega)];exact hu2
theorem DBase.start (h0:0≤to) (h1:to < n):DBase f W n to (sI (List.replicate n (-1)) to 0):=by
 have hs:gI (sI (List.replicate n (-1)) to 0) to=0:=gI_sI_same h0 (by simpa using h1)
 have hn:∀ z,z≠to→gI (sI (List.replicate n (-1)) to 0) z=-1:=fun z hz=>by rw [gI_sI_ne hz,gI_rep]
 refine ⟨by rw [sI_len];simp,hs,fun z=>?_,fun z hz=>?_,fun z hz=>?_⟩
 ·by_cases e:z=to
  ·rw [e,hs];omega
  ·rw [hn z e];omega
 ·by_cases e:z=to
  ·exact e
  ·rw [hn z e] at hz;omega
 ·by_cases e:z=to
  ·rw [e,hs] at hz;omega
  ·rw [hn z e] at hz;omega
end
def stepL (f:Fab) (W:Nat→Bool) (n:Int) (d:List Int) (i:Nat):List Int:=match f.links[i]? with
 | none=>d
 | some l=>if W i then
  let d1:=if gI d l.a=n∧gI d l.b < 0 then sI d l.b (n + 1) else d
  if gI d1 l.b=n∧gI d1 l.a < 0 then sI d1 l.a (n + 1) else d1
  else d
def roundL (f:Fab) (W:Nat→Bool) (d:List Int) (n:Nat):List Int:=(List.range f.links.length).foldl (stepL f W n) d
def distW (f:Fab) (W:Nat→Bool) (to:Int):List Int :=
 let n:=f.dead.length
 if aliveB f to then (List.range n).foldl (roundL f W) (sI (List.replicate n (-1)) to 0) else List.replicate n (-1)
section
variable {f:Fab} {W:Nat→Bool} {n:Nat} {to:Int} {d:List Int}
structure Rm (f:Fab) (W:Nat→Bool) (n:Nat) (to:Int) (m:Nat) (i:Nat) (d:List Int):Prop extends DBase f W n to d where
 le:∀ x,gI d x≤m + 1
 step:∀ x y,Edge f W x y→0≤gI d x→gI d x < m→0≤gI d y∧gI d y≤gI d x + 1
 stepi:∀ j l,j < i→f.links[j]?=some l→W j=true→(gI d l.a=m→0≤gI d l.b)∧(gI d l.b=m→0≤gI d l.a)
theorem Rm.label {m i:Nat} {x y:Int} (h:Rm f W n to m i d) (he:Edge f W x y) (hx:gI d x=m) (hy:gI d y < 0) (h0:0≤y) (h1:y < n) :
 Rm f W n to m i (sI d y (m + 1))∧gI (sI d y (m + 1)) y=m + 1∧∀ z,z≠y→gI (sI d y (m + 1)) z=gI d z:=by
 have hs:gI (sI d y (m + 1)) y=m + 1:=gI_sI_same h0 (by rw [h.len];exact h1)
 have hn:∀ z,z≠y→gI (sI d y (m + 1)) z=gI d z:=fun z hz=>gI_sI_ne hz
 have hb:=h.toDBase.label he (by omega) hy h0 h1
 rw [hx] at hb
 refine ⟨⟨hb,fun z=>?_,fun z u hz h2 h3=>?_,fun j l hj hl hW=>?_⟩,hs,hn⟩
 ·by_cases e:z=y
  ·rw [e,hs];omega
  ·rw [hn z e];exact h.le z
 ·by_cases e:z=y
  ·rw [e,hs] at h3;omega
  ·rw [hn z e] at h2 h3 ⊢
   have:=h.step z u hz h2 h3
   by_cases e2:u=y
   ·rw [e2] at this;omega
   ·rw [hn u e2];exact this
 ·obtain ⟨g1,g2⟩:=h.stepi j l hj hl hW
  constructor
  ·intro h2
   by_cases e:l.b=y
   ·rw [e,hs];omega
   ·rw [hn _ e]
    by_cases e2:l.a=y
    ·rw [e2,hs] at h2;omega
    ·rw [hn _ e2] at h2;exact g1 h2
  ·intro h2
   by_cases e:l.a=y
   ·rw [e,hs];omega
   ·rw [hn _ e]
    by_cases e2:l.b=y
    ·rw [e2,hs] at h2;omega
    ·rw [hn _ e2] at h2;exact g2 h2
theorem Rm.next {m i:Nat} (h:Rm f W n to m i d) (hw:Wf f W n):Rm f W n to m (i + 1) (stepL f W m d i):=by
 unfold stepL
 cases hl:f.links[i]? with
 | none =>
  refine { h with stepi:=fun j l hj hl' hW=>?_ }
  have:j≠i:=fun e=>by rw [e,hl] at hl';cases hl'
  exact h.stepi j l (by omega) hl' hW
 | some l =>
  simp only
  cases hW:W i with
  | false =>
   simp only [Bool.false_eq_true,if_false]
   refine { h with stepi:=fun j l hj hl' hW'=>?_ }
   have:j≠i:=fun e=>by rw [e,hW] at hW';cases hW'
   exact h.stepi j l (by omega) hl' hW'
  | true =>
   simp only [if_true]
   obtain ⟨b1,b2,b3,b4⟩:=hw i l hl hW
   have e1:Edge f W l.a l.b:=⟨i,l,hl,hW,.inl ⟨rfl,rfl⟩⟩
   have key:∃ d1,(if gI d l.a=m∧gI d l.b < 0 then sI d l.b (m + 1) else d)=d1∧Rm f W n to m i d1∧(gI d1 l.a=m→0≤gI d1 l.b):=by
    by_cases hc:gI d l.a=m∧gI d l.b < 0
    ·obtain ⟨g1,g2,g3⟩:=h.label e1 hc.1 hc.2 b3 b4
     exact ⟨_,if_pos hc,g1,fun _=>by rw [g2];omega⟩
    ·refine ⟨_,if_neg hc,h,fun h2=>?_⟩
     have:=fun h3=>hc ⟨h2,h3⟩
     omega
   obtain ⟨d1,hd1,h1,h2⟩:=key
   rw [hd1]
   by_cases hc:gI d1 l.b=m∧gI d1 l.a < 0
   ·rw [if_pos hc]
    obtain ⟨g1,g2,g3⟩:=h1.label e1.symm hc.1 hc.2 b1 b2
    refine { g1 with stepi:=fun j l' hj hl' hW'=>?_ }
    by_cases e:j=i
    ·subst e
     rw [hl] at hl'
     injection hl' with hl'
     subst hl'
     refine ⟨fun h3=>?_,fun _=>by rw [g2];omega⟩
     rw [g2] at h3;omega
    ·exact g1.stepi j l' (by omega) hl' hW'
   ·rw [if_neg hc]
    refine { h1 with stepi:=fun j l' hj hl' hW'=>?_ }
    by_cases e:j=i
    ·subst e
     rw [hl] at hl'
     injection hl' with hl'
     subst hl'
     refine ⟨h2,fun h3=>?_⟩
     have:=fun h4=>hc ⟨h3,h4⟩
     omega
    ·exact h1.stepi j l' (by omega) hl' hW'
theorem Rm.round {m:Nat} (h:Rm f W n to m 0 d) (hw:Wf f W n):Rm f W n to m f.links.length (roundL f W d m):=by
 have:∀ k,Rm f W n to m k ((List.range k).foldl (stepL f W m) d):=by
  intro k
  induction k with
  | zero=>exact h
  | succ k ih=>rw [List.range_succ,List.foldl_append];exact ih.next hw
 exact this _
structure Rn (f:Fab) (W:Nat→Bool) (n:Nat) (to:Int) (m:Nat) (d:List Int):Prop extends DBase f W n to d where
 le:∀ x,gI d x≤m
 step:∀ x y,Edge f W x y→0≤gI d x→gI d x < m→0≤gI d y∧gI d y≤gI d x + 1
theorem Rn.round {m:Nat} (h:Rn f W n to m d) (hw:Wf f W n):Rn f W n to (m + 1) (roundL f W d m):=by
 have h1:Rm f W n to m 0 d:={ h with le:=fun x=>by have:=h.le x;omega,step:=h.step,stepi:=fun j l hj=>by omega }
 have h2:=h1.round hw
 refine { h2 with le:=fun x=>h2.le x,step:=fun x y he hx hm=>?_ }
 by_cases hx2:gI (roundL f W d m) x < m
 ·exact h2.step x y he hx hx2
 ·have hx3:gI (roundL f W d m) x=m:=by omega
  obtain ⟨i,l,hl,hW,h3⟩:=he
  obtain ⟨g1,g2⟩:=h2.stepi i l (List.getElem?_eq_some_iff.1 hl).1 hl hW
  have:=h2.le y
  rcases h3 with ⟨rfl,rfl⟩|⟨rfl,rfl⟩
  ·exact ⟨g1 hx3,by omega⟩
  ·exact ⟨g2 hx3,by omega⟩
theorem pigeon:∀ (k:Nat) (d:List Int),(∀ j:Nat,j < k→(j:Int)∈d)→k≤d.length:=by
 intro k
 induction k with
 | zero=>intro d _;omega
 | succ k ih =>
  intro d h
  have h1:=h k (by omega)
  have:=ih (d.erase (k:Int)) fun j hj=>(List.mem_erase_of_ne (by omega)).2 (h j (by omega))
  rw [List.length_erase_of_mem h1] at this
  have:=List.length_pos_of_mem h1
  omega
theorem DBase.lt (h:DBase f W n to d) (x:Int):gI d x < n:=by
 rcases Int.lt_or_le (gI d x) 0 with h0|h0
 ·omega
 ·have key:∀ (k:Nat) x,gI d x=k→∀ j:Nat,j < k + 1→(j:Int)∈d:=by
   intro k
   induction k with
   | zero =>
    intro x hx j hj
    have:gI d x=j:=by omega
    rw [← this]
    rcases Int.lt_or_le x 0 with h1|h1
    ·rw [gI_out (.inl h1)] at hx;omega
    ·rcases Int.lt_or_le x d.length with h2|h2
     ·obtain ⟨i,rfl⟩:=Int.eq_ofNat_of_zero_le h1
      rw [gI_at (show i < d.length by omega)]
      exact List.getElem_mem _
     ·rw [gI_out (.inr h2)] at hx;omega
   | succ k ih =>
    intro x hx j hj
    by_cases e:j=k + 1
    ·have:gI d x=j:=by omega
     rw [← this]
     rcases Int.lt_or_le x 0 with h1|h1
     ·rw [gI_out (.inl h1)] at hx;omega
     ·rcases Int.lt_or_le x d.length with h2|h2
      ·obtain ⟨i,rfl⟩:=Int.eq_ofNat_of_zero_le h1
       rw [gI_at (show i < d.length by omega)]
       exact List.getElem_mem _
      ·rw [gI_out (.inr h2)] at hx;omega
    ·obtain ⟨y,_,hy⟩:=h.pred x (by omega)
     exact ih y (by omega) j (by omega)
  have:=pigeon ((gI d x).toNat + 1) d (key _ x (by omega))
  rw [h.len] at this
  omega
theorem distW_ok (hw:Wf f W f.dead.length) (ha:aliveB f to=true):IsDist f W f.dead.length to (distW f W to):=by
 obtain ⟨h0,h1⟩:=aliveB_lt ha
 unfold distW
 simp only [ha,if_true]
 have:∀ k,Rn f W f.dead.length to k ((List.range k).foldl (roundL f W) (sI (List.replicate f.dead.length (-1)) to 0)):=by
  intro k
  induction k with
  | zero =>
   have hb:=DBase.start (f:=f) (W:=W) h0 h1
   refine { hb with le:=fun x=>?_,step:=fun x y _ h2 h3=>absurd h3 (by have:((0:Nat):Int)=0:=rfl;omega) }
   by_cases e:x=to
   ·rw [List.range_zero,List.foldl_nil,e,hb.src];simp
   ·show gI (sI _ to 0) x≤_
    rw [gI_sI_ne e,gI_rep];simp
  | succ k ih=>rw [List.range_succ,List.foldl_append];exact ih.round hw
 have h2:=this f.dead.length
 exact { h2 with step:=fun x y he hx=>h2.step x y he hx (h2.toDBase.lt x) }
theorem distW_len (W:Nat→Bool) (to:Int):(distW f W to).length=f.dead.length:=by
 have h2:∀ (n:Int) d i,(stepL f W n d i).length=d.length:=by
  intro n d i
  unfold stepL
  split
  ·rfl
  ·dsimp only
   split
   ·split<;>split<;>simp [sI_len]
   ·rfl
 have h3:∀ (l:List Nat) (n:Int) d,(l.foldl (stepL f W n) d).length=d.length:=by
  intro l n
  induction l with
  | nil=>intro d;rfl
  | cons x l ih=>intro d;rw [List.foldl_cons,ih,h2]
 have h4:∀ (l:List Nat) d,(l.foldl (roundL f W) d).length=d.length:=by
  intro l
  induction l with
  | nil=>intro d;rfl
  | cons x l ih=>intro d;rw [List.foldl_cons,ih];exact h3 _ _ _
 unfold distW
 dsimp only
 split
 ·rw [h4,sI_len];simp
 ·simp
theorem distW_dead (h:aliveB f to=false):distW f W to=List.replicate f.dead.length (-1):=by
 unfold distW;simp [h]
end
def tryQ (n:Nat) (v:Int) (p:List Int × List Int) (x0 x1:Int):List Int × List Int:=if x0=v∧x1 < n∧gI p.1 x1 < 0 then (sI p.1 x1 (gI p.1 x0 + 1),p.2++[x1]) else p
def scanQ (f:Fab) (W:Nat→Bool) (n:Nat) (v:Int) (p:List Int × List Int) (i:Nat):List Int × List Int:=match f.links[i]? with
 | none=>p
 | some l=>if W i then tryQ n v (tryQ n v p l.a l.b) l.b l.a else p
def cntN (d:List Int):Nat:=d.countP (· < 0)
section
variable {f:Fab} {W:Nat→Bool} {n:Nat} {to:Int} {d q:List Int} {v:Int}
theorem cntN_le (d:List Int):cntN d≤d.length:=List.countP_le_length
theorem cnt_set:∀ (d:List Int) (k:Nat) (v:Int) (hk:k < d.length),d[k] < 0→0≤v→(d.set k v).countP (· < 0) + 1=d.countP (· < 0):=by
 intro d k v hk h2 h3
 induction d generalizing k with
 | nil=>simp at hk
 | cons a d ih =>
  cases k with
  | zero =>
   simp only [List.getElem_cons_zero] at h2
   simp only [List.set_cons_zero,List.countP_cons,h2,decide_true,if_true,show ¬ v < 0 by omega,decide_false]
   simp
  | succ k =>
   simp only [List.getElem_cons_succ] at h2
   have:=ih k (by simpa using hk) h2
   simp only [List.set_cons_succ,List.countP_cons]
   omega
theorem cnt_sI {d:List Int} {x v:Int} (h0:0≤x) (h1:x < d.length) (h2:gI d x < 0) (h3:0≤v):cntN (sI d x v) + 1=cntN d:=by
 obtain ⟨k,rfl⟩:=Int.eq_ofNat_of_zero_le h0
 have hk:k < d.length:=by omega
 rw [sI_nat]
 rw [gI_at hk] at h2
 exact cnt_set d k v hk h2 h3
structure Bq (f:Fab) (W:Nat→Bool) (n:Nat) (to:Int) (v:Int) (i:Nat) (d q:List Int):Prop extends DBase f W n to d where
 labv:0≤gI d v
 lab:∀ y∈q,0≤gI d y
 hi:∀ y,gI d y≤gI d v + 1
 lo:∀ y∈q,gI d v≤gI d y
 srt:q.Pairwise fun x y=>gI d x≤gI d y
 done:∀ x,0≤gI d x→x≠v→x ∉ q→∀ y,Edge f W x y→0≤gI d y∧gI d y≤gI d x + 1
 doing:∀ j l,j < i→f.links[j]?=some l→W j=true→(l.a=v→0≤gI d l.b)∧(l.b=v→0≤gI d l.a)
theorem Bq.try_ {i:Nat} {x0 x1:Int} (h:Bq f W n to v i d q) (he:Edge f W x0 x1) (h1:0≤x1) (h2:x1 < n) :
 Bq f W n to v i (tryQ n v (d,q) x0 x1).1 (tryQ n v (d,q) x0 x1).2∧(x0=v→0≤gI (tryQ n v (d,q) x0 x1).1 x1)∧(∀ z,0≤gI d z→0≤gI (tryQ n v (d,q) x0 x1).1 z) ∧
  (tryQ n v (d,q) x0 x1).2.length + cntN (tryQ n v (d,q) x0 x1).1=q.length + cntN d:=by
 unfold tryQ
 dsimp only
 by_cases hc:x0=v∧x1 < (n:Int)∧gI d x1 < 0
 ·rw [if_pos hc]
  dsimp only
  obtain ⟨rfl,_,hneg⟩:=hc
  have hs:gI (sI d x1 (gI d x0 + 1)) x1=gI d x0 + 1:=gI_sI_same h1 (by rw [h.len];exact h2)
  have hn:∀ z,z≠x1→gI (sI d x1 (gI d x0 + 1)) z=gI d z:=fun z hz=>gI_sI_ne hz
  have hlv:=h.labv
  have hne:x0≠x1:=fun e=>by rw [e] at hlv;omega
  have hq:∀ z∈q,z≠x1:=fun z hz e=>by have:=h.lab z hz;rw [e] at this;omega
  refine ⟨⟨h.toDBase.label he hlv hneg h1 h2,by rw [hn _ hne];exact hlv,fun y hy=>?_,fun y=>?_,fun y hy=>?_,?_,fun x hx hxv hxq y hxy=>?_,fun j l hj hl hW=>?_⟩,fun _=>by rw [hs];omega,fun z hz=>?_,?_⟩
  ·rcases List.mem_append.1 hy with hy|hy
   ·rw [hn y (hq y hy)];exact h.lab y hy
   ·simp at hy;rw [hy,hs];omega
  ·rw [hn _ hne]
   by_cases e:y=x1
   ·rw [e,hs];omega
   ·rw [hn y e];exact h.hi y
  ·rw [hn _ hne]
   rcases List.mem_append.1 hy with hy|hy
   ·rw [hn y (hq y hy)];exact h.lo y hy
   ·simp at hy;rw [hy,hs];omega
  ·rw [List.pairwise_append]
   refine ⟨h.srt.imp_of_mem fun {a b} ha hb hab=>by rw [hn a (hq a ha),hn b (hq b hb)];exact hab,by simp,fun a ha b hb=>?_⟩
   simp at hb
   rw [hb,hs,hn a (hq a ha)]
   exact h.hi a
  ·simp only [List.mem_append,List.mem_singleton,not_or] at hxq
   rw [hn x hxq.2] at hx ⊢
   have:=h.done x hx hxv hxq.1 y hxy
   rw [hn y (fun e=>by rw [e] at this;omega)]
   exact this
  ·obtain ⟨g1,g2⟩:=h.doing j l hj hl hW
   refine ⟨fun e=>?_,fun e=>?_⟩
   ·have:=g1 e
    by_cases e2:l.b=x1
    ·rw [e2,hs];omega
    ·rw [hn _ e2];exact this
   ·have:=g2 e
    by_cases e2:l.a=x1
    ·rw [e2,hs];omega
    ·rw [hn _ e2];exact this
  ·by_cases e:z=x1
   ·rw [e,hs];omega
   ·rw [hn z e];exact hz
  ·have:=cnt_sI (d:=d) (v:=gI d x0 + 1) h1 (by rw [h.len];exact h2) hneg (by omega)
   simp only [List.length_append,List.length_singleton]
   omega
 ·rw [if_neg hc]
  refine ⟨h,fun e=>?_,fun z hz=>hz,rfl⟩
  have:=fun h3=>hc ⟨e,h2,h3⟩
  simp only
  omega
theorem Bq.next {i:Nat} (h:Bq f W n to v i d q) (hw:Wf f W n) :
 Bq f W n to v (i + 1) (scanQ f W n v (d,q) i).1 (scanQ f W n v (d,q) i).2∧(scanQ f W n v (d,q) i).2.length + cntN (scanQ f W n v (d,q) i).1=q.length + cntN d:=by
 unfold scanQ
 cases hl:f.links[i]? with
 | none =>
  refine ⟨{ h with doing:=fun j l hj hl' hW=>?_ },rfl⟩
  have:j≠i:=fun e=>by rw [e,hl] at hl';cases hl'
  exact h.doing j l (by omega) hl' hW
 | some l =>
  simp only
  cases hW:W i with
  | false =>
   simp only [Bool.false_eq_true,if_false]
   refine ⟨{ h with doing:=fun j l hj hl' hW'=>?_ },trivial⟩
   have:j≠i:=fun e=>by rw [e,hW] at hW';cases hW'
   exact h.doing j l (by omega) hl' hW'
  | true =>
   simp only [if_true]
   obtain ⟨b1,b2,b3,b4⟩:=hw i l hl hW
   have e1:Edge f W l.a l.b:=⟨i,l,hl,hW,.inl ⟨rfl,rfl⟩⟩
   obtain ⟨g1,g2,g3,g4⟩:=h.try_ e1 b3 b4
   generalize tryQ n v (d,q) l.a l.b=p at g1 g2 g3 g4
   obtain ⟨d1,q1⟩:=p
   obtain ⟨k1,k2,k3,k4⟩:=g1.try_ e1.symm b1 b2
   refine ⟨{ k1 with doing:=fun j l' hj hl' hW'=>?_ },by rw [k4];exact g4⟩
   by_cases e:j=i
   ·subst e
    rw [hl] at hl'
    injection hl' with hl'
    subst hl'
    exact ⟨fun e=>k3 _ (g2 e),k2⟩
   ·exact k1.doing j l' (by omega) hl' hW'
theorem Bq.alldone (h:Bq f W n to v f.links.length d q) (x:Int) (hx:0≤gI d x) (hq:x ∉ q) (y:Int) (he:Edge f W x y):0≤gI d y∧gI d y≤gI d x + 1:=by
 by_cases e:x=v
 ·subst e
  refine ⟨?_,h.hi y⟩
  obtain ⟨i,l,hl,hW,h3⟩:=he
  obtain ⟨g1,g2⟩:=h.doing i l (List.getElem?_eq_some_iff.1 hl).1 hl hW
  rcases h3 with ⟨h4,rfl⟩|⟨h4,rfl⟩
  ·exact g1 h4
  ·exact g2 h4
 ·exact h.done x hx e hq y he
theorem Bq.pop {w:Int} (h:Bq f W n to v f.links.length d (w::q)):Bq f W n to w 0 d q:=by
 have hs:=List.pairwise_cons.1 h.srt
 refine { h with labv:=h.lab w (by simp),lab:=fun y hy=>h.lab y (by simp [hy]),hi:=fun y=>?_,lo:=hs.1,srt:=hs.2,done:=fun x hx hxw hxq y he=>h.alldone x hx (by simp [hxw,hxq]) y he,doing:=fun j l hj=>by omega }
 have:=h.hi y
 have:=h.lo w (by simp)
 omega
theorem Bq.fin (h:Bq f W n to v f.links.length d []):IsDist f W n to d:={ h with step:=fun x y he hx=>h.alldone x hx (by simp) y he }
theorem Bq.start (h0:0≤to) (h1:to < n):Bq f W n to to 0 (sI (List.replicate n (-1)) to 0) []:=by
 have hb:=DBase.start (f:=f) (W:=W) h0 h1
 refine { hb with labv:=by rw [hb.src];exact Int.le_refl 0,lab:=fun y hy=>absurd hy (List.not_mem_nil),hi:=fun y=>?_,lo:=fun y hy=>absurd hy (List.not_mem_nil),srt:=List.Pairwise.nil,done:=fun x hx hxv _ y _=>?_,doing:=fun j l hj=>by omega }
 ·rw [hb.src]
  by_cases e:y=to
  ·rw [e,hb.src];decide
  ·rw [gI_sI_ne e,gI_rep];decide
 ·rw [gI_sI_ne hxv,gI_rep] at hx;omega
end
def endK (a b:Int) (k:Nat):Int:=if k=0 then a else b
def tryK (n:Nat) (v:Int) (p:List Int × List Int) (a b:Int):Nat→List Int × List Int
 | 0=>p
 | 1=>tryQ n v p a b
 | _=>tryQ n v (tryQ n v p a b) b a
theorem tryK_succ {n:Nat} {v:Int} {p:List Int × List Int} {a b:Int} {k:Nat} (h:k < 2):tryK n v p a b (k + 1)=tryQ n v (tryK n v p a b k) (endK a b k) (endK b a k):=by
 rcases k with _|_|k
 ·rfl
 ·rfl
 ·omega
def QS (f:Fab) (W:Nat→Bool) (n:Nat) (to:Int) (d:List Int):List Int→Prop
 | []=>IsDist f W n to d
 | v::q=>Bq f W n to v 0 d q
theorem Bq.qs {f:Fab} {W:Nat→Bool} {n:Nat} {to v:Int} {d q:List Int} (h:Bq f W n to v f.links.length d q):QS f W n to d q:=by
 cases q with
 | nil=>exact h.fin
 | cons w q=>exact h.pop
theorem wfWorks (f:Fab) (W:Nat→Bool) (h:∀ i,W i=true→worksB f i=true):Wf f W f.dead.length:=by
 intro i l hl hW
 obtain ⟨h1,h2⟩:=worksB_ends (h i hW) hl
 have:=aliveB_lt h1
 have:=aliveB_lt h2
 omega
end Go.Proofs.YtdflnmfjpoodlaaGreatDoor
namespace Go.Proofs.YtdflnmfjpoodlaaGreatDoor
open Go.RowKit
def lnkC (x:Lnk):List AV:=[.base (.int .i64 x.a),.base (.int .i64 x.b),.base (.int .i64 x.c)]
def lnksC (l:List Lnk):List AV:=l.flatMap lnkC
def boolsC (l:List Bool):List AV:=l.map fun b=>.base (.bool b)
def fabC (f:Fab):List AV:=[.base (.int .i64 f.sw),.isl (lnksC f.links) f.links.length,.isl (boolsC f.down) f.down.length,.isl (boolsC f.dead) f.dead.length]
theorem lnksC_at {l:List Lnk} {k:Nat} (h:k < l.length):(lnksC l)[k * 3]?=some (.base (.int .i64 l[k].a))∧(lnksC l)[k * 3 + 1]?=some (.base (.int .i64 l[k].b))∧(lnksC l)[k * 3 + 2]?=some (.base (.int .i64 l[k].c)):=by
 induction l generalizing k with
 | nil=>simp at h
 | cons x l ih =>
  cases k with
  | zero=>exact ⟨rfl,rfl,rfl⟩
  | succ k =>
   obtain ⟨h1,h2,h3⟩:=ih (k:=k) (by simpa using h)
   have e:lnksC (x::l)=lnkC x++lnksC l:=rfl
   rw [e]
   refine ⟨?_,?_,?_⟩
   all_goals (rw [List.getElem?_append_right (by simp [lnkC];omega)])
   ·rw [show (k + 1) * 3 - (lnkC x).length=k * 3 from by simp [lnkC];omega];exact h1
   ·rw [show (k + 1) * 3 + 1 - (lnkC x).length=k * 3 + 1 from by simp [lnkC];omega];exact h2
   ·rw [show (k + 1) * 3 + 2 - (lnkC x).length=k * 3 + 2 from by simp [lnkC];omega];exact h3
theorem lnksC_len (l:List Lnk):(lnksC l).length=l.length * 3:=by
 induction l with
 | nil=>rfl
 | cons x l ih=>rw [show lnksC (x::l)=lnkC x++lnksC l from rfl,List.length_append,ih];simp [lnkC];omega
theorem lnksC_tk {l:List Lnk} {k:Nat} (h:k < l.length):Tk (lnksC l) (k * 3) 3 (lnkC l[k]):=by
 obtain ⟨h1,h2,h3⟩:=lnksC_at h
 refine ⟨rfl,fun j c hj=>?_⟩
 match j with
 | 0=>simp [lnkC] at hj;subst hj;exact h1
 | 1=>simp [lnkC] at hj;subst hj;exact h2
 | 2=>simp [lnkC] at hj;subst hj;exact h3
 | j + 3=>simp [lnkC] at hj
theorem boolsC_at {l:List Bool} {k:Nat} (h:k < l.length):(boolsC l)[k * 1]?=some (.base (.bool l[k])):=by simp [boolsC,h]
theorem alive_any (f:Fab) (s:Int):AFn Tryz.prog 52 0 [.agg (fabC f),.base (.int .i64 s)] mt (.base (.bool (aliveB f s))) mt:=by
 refine AFn.eq Tryz.func52 rfl rfl (Nat.le_of_ble_eq_true rfl) ?_
 unfold fabC
 refine Wq<|qW 0 2 rfl<|qC rfl<|qA rfl<|Nl ?_
 by_cases h0:0≤s
 ·obtain ⟨j,rfl⟩:=Int.eq_ofNat_of_zero_le h0
  have g0:decide (0≤(j:Int))=true:=decide_eq_true h0
  by_cases h1:j < f.dead.length
  ·have g1:decide ((j:Int) < f.dead.length)=true:=decide_eq_true (by omega)
   refine Wq<|qW 6 24 rfl<|qM rfl<|qGe rfl<|qM rfl<|gM rfl rfl<|gF rfl rfl ty41 rfl<|gL rfl rfl ty39 rfl<|gH rfl rfl ty39<|gK rfl rfl<|qT rfl rfl rfl<|qM rfl<|gF rfl ‹_› ty41 rfl<|gL rfl ‹_› ty39 rfl<|gM rfl ‹_›<|qU rfl ‹_› rfl (Ii rfl rfl rfl rfl rfl ty39 ty4 (by omega))<|qU rfl ‹_› rfl (Li rfl rfl (boolsC_at h1) ty4 rfl)<|gO rfl ‹_›<|qT rfl ‹_› rfl<|qA rfl<|Nl<|Wz ⟨.inl rfl,_,mt,Rc (Rt0 rfl) (Rv),aM,?_⟩
   exact ⟨by rw [aliveB_at h1];rfl,rfl⟩
  ·have g1:decide ((j:Int) < f.dead.length)=false:=decide_eq_false (by omega)
   refine Wq<|qW 6 24 rfl<|qM rfl<|qGe rfl<|qM rfl<|gM rfl rfl<|gF rfl rfl ty41 rfl<|gL rfl rfl ty39 rfl<|gH rfl rfl ty39<|gK rfl rfl<|qT rfl rfl rfl<|qM rfl<|qD rfl ‹_› rfl<|qD rfl ‹_› rfl<|qD rfl ‹_› rfl<|qD rfl ‹_› rfl<|qD rfl ‹_› rfl<|qD rfl ‹_› rfl<|qP rfl ‹_› rfl<|qA rfl<|Nl<|Wz ⟨.inl rfl,_,mt,Rc (Rt0 rfl) (Rv),aM,?_⟩
   exact ⟨by unfold aliveB;rw [g1];simp [retOf],rfl⟩
 ·have g0:decide (0≤s)=false:=decide_eq_false h0
  refine Wq<|qW 6 24 rfl<|qM rfl<|qGe rfl<|qM rfl<|qD rfl ‹_› rfl<|qD rfl ‹_› rfl<|qD rfl ‹_› rfl<|qD rfl ‹_› rfl<|qD rfl ‹_› rfl<|qP rfl ‹_› rfl<|qM rfl<|qD rfl rfl rfl<|qD rfl rfl rfl<|qD rfl rfl rfl<|qD rfl rfl rfl<|qD rfl rfl rfl<|qD rfl rfl rfl<|qP rfl rfl rfl<|qA rfl<|Nl<|Wz ⟨.inl rfl,_,mt,Rc (Rt0 rfl) (Rv),aM,?_⟩
  exact ⟨by unfold aliveB;rw [g0];rfl,rfl⟩
end Go.Proofs.YtdflnmfjpoodlaaGreatDoor
namespace Go.Proofs.YtdflnmfjpoodlaaGreatDoor
open Go.RowKit
theorem deadX_any (f:Fab) (s:Int):AFn Tryz.prog 34 0 [.agg (fabC f),.base (.int .i64 s)] mt (.base (.bool (!aliveB f s))) mt:=by
 refine AFn.eq Tryz.func34 rfl rfl (Nat.le_of_ble_eq_true rfl) ?_
 unfold fabC
 refine Wq<|qW 0 2 rfl<|qC rfl<|qA rfl<|Nl ?_
 by_cases h0:0≤s
 ·obtain ⟨j,rfl⟩:=Int.eq_ofNat_of_zero_le h0
  have g0:decide ((j:Int) < 0)=false:=decide_eq_false (by omega)
  by_cases h1:j < f.dead.length
  ·have g1:decide ((f.dead.length:Int)≤(j:Int))=false:=decide_eq_false (by omega)
   refine Wq<|qW 6 23 rfl<|qM rfl<|qK rfl<|qM rfl<|gM rfl rfl<|gF rfl rfl ty41 rfl<|gL rfl rfl ty39 rfl<|gH rfl rfl ty39<|gGe rfl rfl<|qP rfl rfl rfl<|qM rfl<|gF rfl ‹_› ty41 rfl<|gL rfl ‹_› ty39 rfl<|gM rfl ‹_›<|qU rfl ‹_› rfl (Ii rfl rfl rfl rfl rfl ty39 ty4 (by omega))<|qU rfl ‹_› rfl (Li rfl rfl (boolsC_at h1) ty4 rfl)<|qP rfl ‹_› rfl<|qA rfl<|Nl<|Wz ⟨.inl rfl,_,mt,Rc (Rt0 rfl) (Rv),aM,?_⟩
   exact ⟨by rw [aliveB_at h1,Bool.not_not];rfl,rfl⟩
  ·have g1:decide ((f.dead.length:Int)≤(j:Int))=true:=decide_eq_true (by omega)
   refine Wq<|qW 6 23 rfl<|qM rfl<|qK rfl<|qM rfl<|gM rfl rfl<|gF rfl rfl ty41 rfl<|gL rfl rfl ty39 rfl<|gH rfl rfl ty39<|gGe rfl rfl<|qP rfl rfl rfl<|qM rfl<|qD rfl ‹_› rfl<|qD rfl ‹_› rfl<|qD rfl ‹_› rfl<|qD rfl ‹_› rfl<|qD rfl ‹_› rfl<|qT rfl ‹_› rfl<|qA rfl<|Nl<|Wz ⟨.inl rfl,_,mt,Rc (Rt0 rfl) (Rv),aM,?_⟩
   exact ⟨by have g2 : decide ((j : Int) < f.dead.length) = false := decide_eq_false (by omega)
             unfold aliveB;rw [g2];simp [retOf],rfl⟩
 ·have g0:decide (s < 0)=true:=decide_eq_true (by omega)
  refine Wq<|qW 6 23 rfl<|qM rfl<|qK rfl<|qM rfl<|qD rfl ‹_› rfl<|qD rfl ‹_› rfl<|qD rfl ‹_› rfl<|qD rfl ‹_› rfl<|qD rfl ‹_› rfl<|qT rfl ‹_› rfl<|qM rfl<|qD rfl rfl rfl<|qD rfl rfl rfl<|qD rfl rfl rfl<|qD rfl rfl rfl<|qD rfl rfl rfl<|qT rfl rfl rfl<|qA rfl<|Nl<|Wz ⟨.inl rfl,_,mt,Rc (Rt0 rfl) (Rv),aM,?_⟩
  exact ⟨by unfold aliveB;rw [decide_eq_false h0];rfl,rfl⟩
theorem works_any (f:Fab) (s:Int):AFn Tryz.prog 33 0 [.agg (fabC f),.base (.int .i64 s)] mt (.base (.bool (worksB f s))) mt:=by
 refine AFn.eq Tryz.func33 rfl rfl (Nat.le_of_ble_eq_true rfl) ?_
 have hal:=alive_any f
 unfold fabC at hal ⊢
 refine Wq<|qW 0 2 rfl<|qC rfl<|qA rfl<|Nl ?_
 by_cases h0:0≤s
 ·obtain ⟨j,rfl⟩:=Int.eq_ofNat_of_zero_le h0
  have g0:decide ((j:Int) < 0)=false:=decide_eq_false (by omega)
  by_cases h1:j < f.links.length
  ·have g1:decide ((f.links.length:Int)≤(j:Int))=false:=decide_eq_false (by omega)
   by_cases h2:j < f.down.length
   ·have g2:decide ((f.down.length:Int)≤(j:Int))=false:=decide_eq_false (by omega)
    have hw:=worksB_at h1 h2
    refine Wq<|Wq<|qW 6 29 rfl<|qM rfl<|qK rfl<|qM rfl<|gM rfl rfl<|gF rfl rfl ty41 rfl<|gL rfl rfl ty38 rfl<|gH rfl rfl ty38<|gGe rfl rfl<|qP rfl rfl rfl<|qM rfl<|gM rfl ‹_›<|gF rfl ‹_› ty41 rfl<|gL rfl ‹_› ty39 rfl<|gH rfl ‹_› ty39<|gGe rfl ‹_›<|qP rfl ‹_› rfl<|qM rfl<|gF rfl ‹_› ty41 rfl<|gL rfl ‹_› ty39 rfl<|gM rfl ‹_›<|qU rfl ‹_› rfl (Ii rfl rfl rfl rfl rfl ty39 ty4 (by omega))<|qU rfl ‹_› rfl (Li rfl rfl (boolsC_at h2) ty4 rfl)<|qP rfl ‹_› rfl<|Nl ?_
    cases hd:f.down[j] with
    | true =>
     refine Wt rfl rfl<|Wq<|qW 33 34 rfl<|qA rfl<|Nl<|Wz ⟨.inl rfl,_,mt,Rc (Rt0 rfl) (Rv),aM,?_⟩
     exact ⟨by rw [hw,hd];rfl,rfl⟩
    | false =>
     refine Wo rfl rfl<|Wu ?_
     cases ha:aliveB f f.links[j].a with
     | true =>
      refine Wq<|Wd 38 57 (by decide) rfl mixed rfl<|qG rfl ty41 rfl (Tl rfl)<|qF rfl ty41 rfl<|qL rfl ty38 rfl<|qM rfl<|qJ rfl rfl ty38 ty96 (by omega)<|qI rfl ty96 rfl<|Od rfl rfl (Li rfl rfl (lnksC_at h1).1 ty3 rfl)<|qY rfl (hal _) fok52 rfl<|qM rfl<|gG rfl ‹_› ty41 rfl (Tl rfl)<|gF rfl ‹_› ty41 rfl<|gL rfl ‹_› ty38 rfl<|gM rfl ‹_›<|qU rfl ‹_› rfl (Ii rfl rfl rfl rfl rfl ty38 ty96 (by omega))<|qU rfl ‹_› rfl (Fi rfl rfl ty96 rfl (by decide))<|qU rfl ‹_› rfl (Li rfl rfl (lnksC_at h1).2.1 ty3 rfl)<|gY rfl ‹_› (hal _) fok52 rfl<|qT rfl ‹_› rfl<|qA rfl<|Nl ⟨by kernel_rfl,(Wz ⟨.inl rfl,_,mt,Rc (Rt0 rfl) (Rv),aM,?_⟩)⟩
      exact ⟨by rw [hw,hd,ha];rfl,rfl⟩
     | false =>
      refine Wq<|Wd 38 57 (by decide) rfl mixed rfl<|qG rfl ty41 rfl (Tl rfl)<|qF rfl ty41 rfl<|qL rfl ty38 rfl<|qM rfl<|qJ rfl rfl ty38 ty96 (by omega)<|qI rfl ty96 rfl<|Od rfl rfl (Li rfl rfl (lnksC_at h1).1 ty3 rfl)<|qY rfl (hal _) fok52 rfl<|qM rfl<|qD rfl ‹_› rfl<|qD rfl ‹_› rfl<|qD rfl ‹_› rfl<|qD rfl ‹_› rfl<|qD rfl ‹_› rfl<|qD rfl ‹_› rfl<|qD rfl ‹_› rfl<|qD rfl ‹_› rfl<|qP rfl ‹_› rfl<|qA rfl<|Nl ⟨by kernel_rfl,(Wz ⟨.inl rfl,_,mt,Rc (Rt0 rfl) (Rv),aM,?_⟩)⟩
      exact ⟨by rw [hw,hd,ha];rfl,rfl⟩
   ·have g2:decide ((f.down.length:Int)≤(j:Int))=true:=decide_eq_true (by omega)
    refine Wq<|Wq<|qW 6 29 rfl<|qM rfl<|qK rfl<|qM rfl<|gM rfl rfl<|gF rfl rfl ty41 rfl<|gL rfl rfl ty38 rfl<|gH rfl rfl ty38<|gGe rfl rfl<|qP rfl rfl rfl<|qM rfl<|gM rfl ‹_›<|gF rfl ‹_› ty41 rfl<|gL rfl ‹_› ty39 rfl<|gH rfl ‹_› ty39<|gGe rfl ‹_›<|qP rfl ‹_› rfl<|qM rfl<|qD rfl ‹_› rfl<|qD rfl ‹_› rfl<|qD rfl ‹_› rfl<|qD rfl ‹_› rfl<|qD rfl ‹_› rfl<|qT rfl ‹_› rfl<|Nl<|Wt rfl rfl<|Wq<|qW 33 34 rfl<|qA rfl<|Nl<|Wz ⟨.inl rfl,_,mt,Rc (Rt0 rfl) (Rv),aM,?_⟩
    exact ⟨by have g3 : decide ((j : Int) < f.down.length) = false := decide_eq_false (by omega)
              unfold worksB;rw [g3];simp [retOf],rfl⟩
  ·have g1:decide ((f.links.length:Int)≤(j:Int))=true:=decide_eq_true (by omega)
   refine Wq<|Wq<|qW 6 29 rfl<|qM rfl<|qK rfl<|qM rfl<|gM rfl rfl<|gF rfl rfl ty41 rfl<|gL rfl rfl ty38 rfl<|gH rfl rfl ty38<|gGe rfl rfl<|qP rfl rfl rfl<|qM rfl<|qD rfl ‹_› rfl<|qD rfl ‹_› rfl<|qD rfl ‹_› rfl<|qD rfl ‹_› rfl<|qD rfl ‹_› rfl<|qT rfl ‹_› rfl<|qM rfl<|qD rfl rfl rfl<|qD rfl rfl rfl<|qD rfl rfl rfl<|qD rfl rfl rfl<|qD rfl rfl rfl<|qT rfl rfl rfl<|Nl<|Wt rfl rfl<|Wq<|qW 33 34 rfl<|qA rfl<|Nl<|Wz ⟨.inl rfl,_,mt,Rc (Rt0 rfl) (Rv),aM,?_⟩
   exact ⟨by have g3 : decide ((j : Int) < f.links.length) = false := decide_eq_false (by omega)
             unfold worksB;rw [g3];simp [retOf],rfl⟩
 ·have g0:decide (s < 0)=true:=decide_eq_true (by omega)
  refine Wq<|Wq<|qW 6 29 rfl<|qM rfl<|qK rfl<|qM rfl<|qD rfl ‹_› rfl<|qD rfl ‹_› rfl<|qD rfl ‹_› rfl<|qD rfl ‹_› rfl<|qD rfl ‹_› rfl<|qT rfl ‹_› rfl<|qM rfl<|qD rfl rfl rfl<|qD rfl rfl rfl<|qD rfl rfl rfl<|qD rfl rfl rfl<|qD rfl rfl rfl<|qT rfl rfl rfl<|qM rfl<|qD rfl rfl rfl<|qD rfl rfl rfl<|qD rfl rfl rfl<|qD rfl rfl rfl<|qD rfl rfl rfl<|qT rfl rfl rfl<|Nl<|Wt rfl rfl<|Wq<|qW 33 34 rfl<|qA rfl<|Nl<|Wz ⟨.inl rfl,_,mt,Rc (Rt0 rfl) (Rv),aM,?_⟩
  exact ⟨by unfold worksB;rw [decide_eq_false h0];rfl,rfl⟩
theorem worksX_any (f:Fab) (s:Int):AFn Tryz.prog 10 0 [.agg (fabC f),.base (.int .i64 s)] mt (.base (.bool (worksB f s))) mt:=by
 refine AFn.eq Tryz.func10 rfl rfl (Nat.le_of_ble_eq_true rfl) ?_
 have hal:=deadX_any f
 unfold fabC at hal ⊢
 refine Wq<|qW 0 2 rfl<|qC rfl<|qA rfl<|Nl ?_
 by_cases h0:0≤s
 ·obtain ⟨j,rfl⟩:=Int.eq_ofNat_of_zero_le h0
  have g0:decide ((j:Int) < 0)=false:=decide_eq_false (by omega)
  by_cases h1:j < f.links.length
  ·have g1:decide ((f.links.length:Int)≤(j:Int))=false:=decide_eq_false (by omega)
   by_cases h2:j < f.down.length
   ·have g2:decide ((f.down.length:Int)≤(j:Int))=false:=decide_eq_false (by omega)
    have hw:=worksB_at h1 h2
    refine Wq<|Wq<|qW 6 29 rfl<|qM rfl<|qK rfl<|qM rfl<|gM rfl rfl<|gF rfl rfl ty41 rfl<|gL rfl rfl ty38 rfl<|gH rfl rfl ty38<|gGe rfl rfl<|qP rfl rfl rfl<|qM rfl<|gM rfl ‹_›<|gF rfl ‹_› ty41 rfl<|gL rfl ‹_› ty39 rfl<|gH rfl ‹_› ty39<|gGe rfl ‹_›<|qP rfl ‹_› rfl<|qM rfl<|gF rfl ‹_› ty41 rfl<|gL rfl ‹_› ty39 rfl<|gM rfl ‹_›<|qU rfl ‹_› rfl (Ii rfl rfl rfl rfl rfl ty39 ty4 (by omega))<|qU rfl ‹_› rfl (Li rfl rfl (boolsC_at h2) ty4 rfl)<|qP rfl ‹_› rfl<|Nl ?_
    cases hd:f.down[j] with
    | true =>
     refine Wt rfl rfl<|Wq<|qW 33 34 rfl<|qA rfl<|Nl<|Wz ⟨.inl rfl,_,mt,Rc (Rt0 rfl) (Rv),aM,?_⟩
     exact ⟨by rw [hw,hd];rfl,rfl⟩
    | false =>
     refine Wo rfl rfl<|Wu<|Wq<|qW 38 45 rfl<|qF rfl ty41 rfl<|qL rfl ty38 rfl<|qM rfl<|qJ rfl rfl ty38 ty96 (by omega)<|Od rfl rfl (Lg rfl rfl ty96 rfl (lnksC_tk h1))<|qB rfl ty96<|qS rfl ty96 (Sl rfl) rfl<|Nl ?_
     cases ha:aliveB f f.links[j].a with
     | true =>
      have ha1:(!!aliveB f f.links[j].a)=true:=by rw [ha];rfl
      refine Wq<|qW 49 62 rfl<|qG rfl ty41 rfl (Tl rfl)<|qF rfl ty96 rfl<|qL rfl ty3 rfl<|qY rfl (hal _) fok34 rfl<|qO rfl<|qM rfl<|gG rfl ‹_› ty41 rfl (Tl rfl)<|gF rfl ‹_› ty96 rfl<|gL rfl ‹_› ty3 rfl<|gY rfl ‹_› (hal _) fok34 rfl<|gO rfl ‹_›<|qT rfl ‹_› rfl<|qA rfl<|Nl<|Wz ⟨.inl rfl,_,mt,Rc (Rt0 rfl) (Rv),aM,?_⟩
      exact ⟨by rw [hw,hd,ha,Bool.not_not];rfl,rfl⟩
     | false =>
      have ha1:(!!aliveB f f.links[j].a)=false:=by rw [ha];rfl
      refine Wq<|qW 49 62 rfl<|qG rfl ty41 rfl (Tl rfl)<|qF rfl ty96 rfl<|qL rfl ty3 rfl<|qY rfl (hal _) fok34 rfl<|qO rfl<|qM rfl<|qD rfl ‹_› rfl<|qD rfl ‹_› rfl<|qD rfl ‹_› rfl<|qD rfl ‹_› rfl<|qD rfl ‹_› rfl<|qP rfl ‹_› rfl<|qA rfl<|Nl<|Wz ⟨.inl rfl,_,mt,Rc (Rt0 rfl) (Rv),aM,?_⟩
      exact ⟨by rw [hw,hd,ha];rfl,rfl⟩
   ·have g2:decide ((f.down.length:Int)≤(j:Int))=true:=decide_eq_true (by omega)
    refine Wq<|Wq<|qW 6 29 rfl<|qM rfl<|qK rfl<|qM rfl<|gM rfl rfl<|gF rfl rfl ty41 rfl<|gL rfl rfl ty38 rfl<|gH rfl rfl ty38<|gGe rfl rfl<|qP rfl rfl rfl<|qM rfl<|gM rfl ‹_›<|gF rfl ‹_› ty41 rfl<|gL rfl ‹_› ty39 rfl<|gH rfl ‹_› ty39<|gGe rfl ‹_›<|qP rfl ‹_› rfl<|qM rfl<|qD rfl ‹_› rfl<|qD rfl ‹_› rfl<|qD rfl ‹_› rfl<|qD rfl ‹_› rfl<|qD rfl ‹_› rfl<|qT rfl ‹_› rfl<|Nl<|Wt rfl rfl<|Wq<|qW 33 34 rfl<|qA rfl<|Nl<|Wz ⟨.inl rfl,_,mt,Rc (Rt0 rfl) (Rv),aM,?_⟩
    exact ⟨by have g3 : decide ((j : Int) < f.down.length) = false := decide_eq_false (by omega)
              unfold worksB;rw [g3];simp [retOf],rfl⟩
  ·have g1:decide ((f.links.length:Int)≤(j:Int))=true:=decide_eq_true (by omega)
   refine Wq<|Wq<|qW 6 29 rfl<|qM rfl<|qK rfl<|qM rfl<|gM rfl rfl<|gF rfl rfl ty41 rfl<|gL rfl rfl ty38 rfl<|gH rfl rfl ty38<|gGe rfl rfl<|qP rfl rfl rfl<|qM rfl<|qD rfl ‹_› rfl<|qD rfl ‹_› rfl<|qD rfl ‹_› rfl<|qD rfl ‹_› rfl<|qD rfl ‹_› rfl<|qT rfl ‹_› rfl<|qM rfl<|qD rfl rfl rfl<|qD rfl rfl rfl<|qD rfl rfl rfl<|qD rfl rfl rfl<|qD rfl rfl rfl<|qT rfl rfl rfl<|Nl<|Wt rfl rfl<|Wq<|qW 33 34 rfl<|qA rfl<|Nl<|Wz ⟨.inl rfl,_,mt,Rc (Rt0 rfl) (Rv),aM,?_⟩
   exact ⟨by have g3 : decide ((j : Int) < f.links.length) = false := decide_eq_false (by omega)
             unfold worksB;rw [g3];simp [retOf],rfl⟩
 ·have g0:decide (s < 0)=true:=decide_eq_true (by omega)
  refine Wq<|Wq<|qW 6 29 rfl<|qM rfl<|qK rfl<|qM rfl<|qD rfl ‹_› rfl<|qD rfl ‹_› rfl<|qD rfl ‹_› rfl<|qD rfl ‹_› rfl<|qD rfl ‹_› rfl<|qT rfl ‹_› rfl<|qM rfl<|qD rfl rfl rfl<|qD rfl rfl rfl<|qD rfl rfl rfl<|qD rfl rfl rfl<|qD rfl rfl rfl<|qT rfl rfl rfl<|qM rfl<|qD rfl rfl rfl<|qD rfl rfl rfl<|qD rfl rfl rfl<|qD rfl rfl rfl<|qD rfl rfl rfl<|qT rfl rfl rfl<|Nl<|Wt rfl rfl<|Wq<|qW 33 34 rfl<|qA rfl<|Nl<|Wz ⟨.inl rfl,_,mt,Rc (Rt0 rfl) (Rv),aM,?_⟩
  exact ⟨by unfold worksB;rw [decide_eq_false h0];rfl,rfl⟩
end Go.Proofs.YtdflnmfjpoodlaaGreatDoor
