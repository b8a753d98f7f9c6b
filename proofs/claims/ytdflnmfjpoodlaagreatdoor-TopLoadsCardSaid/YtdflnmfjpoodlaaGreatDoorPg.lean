/-
  Flows in plain words: what is left of the capacities, ways along it, and the sets that separate two switches.
-/
import Derived.Test.YtdflnmfjpoodlaaGreatDoorFb
import Derived.Test.YtdflnmfjpoodlaaGreatDoorMab
namespace Go.Proofs.YtdflnmfjpoodlaaGreatDoor
theorem sum_change:∀ (m:Nat) (F G:Nat→Int) (k:Nat),k < m→(∀ i,i < m→i≠k→F i=G i)→((List.range m).map F).sum=((List.range m).map G).sum + (F k - G k):=by
 intro m
 induction m with
 | zero=>intro F G k h;omega
 | succ m ih =>
  intro F G k hk h
  simp only [List.range_succ,List.map_append,List.map_cons,List.map_nil,List.sum_append,List.sum_cons,List.sum_nil]
  by_cases e:k=m
  ·subst e
   have:(List.range k).map F=(List.range k).map G:=List.map_congr_left fun i hi=>h i (by have:=List.mem_range.1 hi;omega) (by have:=List.mem_range.1 hi;omega)
   rw [this];omega
  ·have h1:=ih F G k (by omega) fun i hi hne=>h i (by omega) hne
   have h2:=h m (by omega) (fun e2=>e e2.symm)
   rw [h1,h2];omega
theorem sum_nonneg:∀ (m:Nat) (F:Nat→Int),(∀ i,i < m→0≤F i)→0≤((List.range m).map F).sum:=by
 intro m
 induction m with
 | zero=>intro F _;simp
 | succ m ih =>
  intro F h
  simp only [List.range_succ,List.map_append,List.map_cons,List.map_nil,List.sum_append,List.sum_cons,List.sum_nil]
  have:=ih F fun i hi=>h i (by omega)
  have:=h m (by omega)
  omega
theorem sum_le:∀ (m:Nat) (F G:Nat→Int),(∀ i,i < m→F i≤G i)→((List.range m).map F).sum≤((List.range m).map G).sum:=by
 intro m
 induction m with
 | zero=>intro F G _;simp
 | succ m ih =>
  intro F G h
  simp only [List.range_succ,List.map_append,List.map_cons,List.map_nil,List.sum_append,List.sum_cons,List.sum_nil]
  have:=ih F G fun i hi=>h i (by omega)
  have:=h m (by omega)
  omega
theorem sum_zero (m:Nat) (F:Nat→Int) (h:∀ i,i < m→F i=0):((List.range m).map F).sum=0:=by
 have h1:=sum_nonneg m F fun i hi=>by rw [h i hi];exact Int.le_refl _
 have h2:=sum_le m F (fun _=>0) fun i hi=>by rw [h i hi];exact Int.le_refl _
 have h3:((List.range m).map fun _=>(0:Int)).sum=0:=by
  clear h h1 h2
  induction m with
  | zero=>rfl
  | succ m ih=>rw [List.range_succ,List.map_append,List.sum_append,ih];rfl
 omega
def cN (n:List Int) (k:Nat):Int:=n.getD k 0
def addAt (n:List Int) (k:Nat) (c:Int):List Int:=n.set k (cN n k + c)
theorem addAt_len (n:List Int) (k:Nat) (c:Int):(addAt n k c).length=n.length:=by simp [addAt]
theorem cN_add {n:List Int} {k:Nat} {c:Int} (h:k < n.length) (j:Nat):cN (addAt n k c) j=cN n j + if j=k then c else 0:=by
 unfold cN addAt
 by_cases e:j=k
 ·subst e;simp [h,cN]
 ·simp only [List.getD_eq_getElem?_getD,List.getElem?_set_ne (show k≠j from fun h=>e h.symm),if_neg e];omega
def crossK (χ:Nat→Bool) (k:Nat):Bool:=χ (k / 8) && !χ (k % 8)
def cutS (χ:Nat→Bool) (n:List Int):Int:=((List.range 64).map fun k=>if crossK χ k then cN n k else 0).sum
theorem cutS_add {χ:Nat→Bool} {n:List Int} {k:Nat} {c:Int} (h:n.length=64) (hk:k < 64):cutS χ (addAt n k c)=cutS χ n + if crossK χ k then c else 0:=by
 unfold cutS
 rw [sum_change 64 (fun j=>if crossK χ j then cN (addAt n k c) j else 0) (fun j=>if crossK χ j then cN n j else 0) k hk fun i _ hne=>by
  simp only [cN_add (c:=c) (show k < n.length by omega),if_neg hne,Int.add_zero]]
 simp only [cN_add (c:=c) (show k < n.length by omega),if_true]
 split<;>omega
theorem cross_uv (χ:Nat→Bool) {u v:Nat} (hv:v < 8):crossK χ (u * 8 + v)=(χ u && !χ v):=by
 unfold crossK
 rw [show (u * 8 + v) / 8=u from by omega,show (u * 8 + v) % 8=v from by omega]
def capStep (f:Fab) (W:Nat→Bool) (n:List Int) (i:Nat):List Int:=match f.links[i]? with
 | none=>n
 | some l=>if W i then addAt (addAt n (l.a.toNat * 8 + l.b.toNat) l.c) (l.b.toNat * 8 + l.a.toNat) l.c else n
def capM (f:Fab) (W:Nat→Bool) (k:Nat):List Int:=(List.range k).foldl (capStep f W) (List.replicate 64 0)
theorem cN_zero (f:Fab) (W:Nat→Bool) (j:Nat):cN (capM f W 0) j=0:=by
 show (List.replicate 64 (0:Int)).getD j 0=0
 rw [List.getD_eq_getElem?_getD,List.getElem?_replicate]
 split<;>rfl
theorem capM_succ (f:Fab) (W:Nat→Bool) (k:Nat):capM f W (k + 1)=capStep f W (capM f W k) k:=by
 unfold capM;rw [List.range_succ,List.foldl_append];rfl
theorem capStep_len (f:Fab) (W:Nat→Bool) (n:List Int) (i:Nat):(capStep f W n i).length=n.length:=by
 unfold capStep
 split
 ·rfl
 ·split<;>simp [addAt_len]
theorem capM_len (f:Fab) (W:Nat→Bool) (k:Nat):(capM f W k).length=64:=by
 induction k with
 | zero=>simp [capM]
 | succ k ih=>rw [capM_succ,capStep_len,ih]
def capI (f:Fab) (W:Nat→Bool) (χ:Nat→Bool) (i:Nat):Int:=match f.links[i]? with
 | none=>0
 | some l=>if W i && (χ l.a.toNat != χ l.b.toNat) then l.c else 0
def capC (f:Fab) (W:Nat→Bool) (χ:Nat→Bool):Int:=((List.range f.links.length).map (capI f W χ)).sum
structure LkOK (B:Int) (l:Lnk):Prop where
 a0:0≤l.a
 a8:l.a < 8
 b0:0≤l.b
 b8:l.b < 8
 ne:l.a≠l.b
 c1:0≤l.c
 cB:l.c≤B
theorem LkOK.ix {B:Int} {l:Lnk} (h:LkOK B l):l.a.toNat < 8∧l.b.toNat < 8∧l.a.toNat≠l.b.toNat:=by
 obtain ⟨h1,h2,h3,h4,h5,_,_⟩:=h
 omega
section
variable {f:Fab} {W:Nat→Bool} {B:Int}
theorem capM_cut (hL:∀ i l,f.links[i]?=some l→W i=true→LkOK B l) (χ:Nat→Bool) (k:Nat):cutS χ (capM f W k)=((List.range k).map (capI f W χ)).sum:=by
 induction k with
 | zero=>exact sum_zero 64 _ fun i hi=>by rw [cN_zero];split<;>rfl
 | succ k ih =>
  rw [capM_succ]
  simp only [List.range_succ,List.map_append,List.map_cons,List.map_nil,List.sum_append,List.sum_cons,List.sum_nil]
  rw [← ih]
  unfold capStep capI
  cases hl:f.links[k]? with
  | none=>simp
  | some l =>
   simp only
   cases hW:W k with
   | false=>simp
   | true =>
    obtain ⟨h1,h2,h3⟩:=(hL k l hl hW).ix
    simp only [if_true,Bool.true_and]
    rw [cutS_add (by rw [addAt_len,capM_len]) (by omega),cutS_add (capM_len _ _ _) (by omega),cross_uv χ h2,cross_uv χ h1]
    cases χ l.a.toNat<;>cases χ l.b.toNat<;>simp
theorem capM_bd (hB:0≤B) (hL:∀ i l,f.links[i]?=some l→W i=true→LkOK B l) (k:Nat) (j:Nat):0≤cN (capM f W k) j∧cN (capM f W k) j≤k * B:=by
 induction k with
 | zero=>rw [cN_zero];simp
 | succ k ih =>
  rw [capM_succ]
  have e:((k + 1:Nat):Int) * B=k * B + B:=by rw [Int.natCast_add,Int.add_mul];simp
  rw [e]
  unfold capStep
  cases hl:f.links[k]? with
  | none=>simp only;omega
  | some l =>
   simp only
   cases hW:W k with
   | false=>simp only [Bool.false_eq_true,if_false];omega
   | true =>
    have hk:=hL k l hl hW
    obtain ⟨h1,h2,h3⟩:=hk.ix
    have:=hk.c1
    have:=hk.cB
    simp only [if_true]
    rw [cN_add (by rw [addAt_len,capM_len];omega),cN_add (by rw [capM_len];omega)]
    split
    ·rename_i e1
     rw [if_neg (by omega)];omega
    ·split<;>omega
end
inductive PathTo (fr:List Int) (a:Nat):Nat→List Nat→Prop
 | nil:PathTo fr a a []
 | cons {v u:Nat} {p:List Nat} (hv:v≠a) (hu:gI fr v=u) (h:PathTo fr a u p):PathTo fr a v (v::p)
def frN (fr:List Int) (v:Nat):Nat:=(gI fr v).toNat
def leastP (fr n:List Int) (m:Int) (p:List Nat):Int:=p.foldl (fun m v=>if cN n (frN fr v * 8 + v) < m then cN n (frN fr v * 8 + v) else m) m
def sendV (fr:List Int) (c:Int) (n:List Int) (v:Nat):List Int:=addAt (addAt n (frN fr v * 8 + v) (-c)) (v * 8 + frN fr v) c
def sendP (fr:List Int) (c:Int) (n:List Int) (p:List Nat):List Int:=p.foldl (sendV fr c) n
theorem sendV_len (fr:List Int) (c:Int) (n:List Int) (v:Nat):(sendV fr c n v).length=n.length:=by simp [sendV,addAt_len]
theorem leastP_le (fr n:List Int) (p:List Nat):∀ m,leastP fr n m p≤m∧∀ v∈p,leastP fr n m p≤cN n (frN fr v * 8 + v):=by
 induction p with
 | nil=>intro m;exact ⟨Int.le_refl _,fun v h=>by cases h⟩
 | cons v p ih =>
  intro m
  have hm:(if cN n (frN fr v * 8 + v) < m then cN n (frN fr v * 8 + v) else m)≤m∧(if cN n (frN fr v * 8 + v) < m then cN n (frN fr v * 8 + v) else m)≤cN n (frN fr v * 8 + v):=by split<;>omega
  obtain ⟨h1,h2⟩:=ih (if cN n (frN fr v * 8 + v) < m then cN n (frN fr v * 8 + v) else m)
  have e:leastP fr n m (v::p)=leastP fr n (if cN n (frN fr v * 8 + v) < m then cN n (frN fr v * 8 + v) else m) p:=rfl
  rw [e]
  refine ⟨?_,fun u hu=>?_⟩
  ·exact Int.le_trans h1 hm.1
  ·rcases List.mem_cons.1 hu with rfl|hu
   ·exact Int.le_trans h1 hm.2
   ·exact h2 u hu
theorem leastP_pos (fr n:List Int) (p:List Nat):∀ m,0 < m→(∀ v∈p,0 < cN n (frN fr v * 8 + v))→0 < leastP fr n m p:=by
 induction p with
 | nil=>intro m h _;exact h
 | cons v p ih =>
  intro m h hp
  refine ih _ ?_ fun u hu=>hp u (by simp [hu])
  have:=hp v (by simp)
  show 0 < if cN n (frN fr v * 8 + v) < m then cN n (frN fr v * 8 + v) else m
  split<;>assumption
def chi (χ:Nat→Bool) (v:Nat):Int:=if χ v then 1 else 0
theorem sendV_cut {fr n:List Int} {c:Int} {v:Nat} (χ:Nat→Bool) (hn:n.length=64) (hv:v < 8) (hu:frN fr v < 8):cutS χ (sendV fr c n v)=cutS χ n - c * (chi χ (frN fr v) - chi χ v):=by
 unfold sendV
 rw [cutS_add (by rw [addAt_len,hn]) (by omega),cutS_add hn (by omega),cross_uv χ hv,cross_uv χ hu]
 unfold chi
 cases χ v<;>cases χ (frN fr v)<;>simp
 omega
theorem sendP_cut {fr:List Int} {c:Int} {a:Nat} (χ:Nat→Bool) {v:Nat} {p:List Nat} (h:PathTo fr a v p):∀ n:List Int,n.length=64→(∀ u∈p,u < 8)→a < 8→cutS χ (sendP fr c n p)=cutS χ n - c * (chi χ a - chi χ v):=by
 induction h with
 | nil=>intro n _ _ _;rw [Int.sub_self,Int.mul_zero,Int.sub_zero];rfl
 | @cons v u p hv hu h ih =>
  intro n hn hp ha
  have hfr:frN fr v=u:=by unfold frN;rw [hu];simp
  have hu8:u < 8:=by
   cases h with
   | nil=>exact ha
   | cons _ _ _=>exact hp u (by simp)
  have e:sendP fr c n (v::p)=sendP fr c (sendV fr c n v) p:=rfl
  rw [e,ih _ (by rw [sendV_len,hn]) (fun w hw=>hp w (by simp [hw])) ha,sendV_cut χ hn (hp v (by simp)) (by rw [hfr];exact hu8),hfr]
  have:c * (chi χ a - chi χ u) + c * (chi χ u - chi χ v)=c * (chi χ a - chi χ v):=by rw [← Int.mul_add];congr 1;omega
  omega
structure Left (B:Int) (n:List Int):Prop where
 len:n.length=64
 ge:∀ u v,u < 8→v < 8→0≤cN n (u * 8 + v)
 bd:∀ u v,u < 8→v < 8→u≠v→cN n (u * 8 + v) + cN n (v * 8 + u)≤B
theorem Left.cell {B:Int} {n:List Int} (h:Left B n) {u v:Nat} (hu:u < 8) (hv:v < 8) (hne:u≠v):cN n (u * 8 + v)≤B:=by
 have:=h.bd u v hu hv hne
 have:=h.ge v u hv hu
 omega
theorem sendV_cell {fr n:List Int} {c:Int} {v u x y:Nat} (hfr:frN fr v=u) (hn:n.length=64) (hv:v < 8) (hu:u < 8) (_hx:x < 8) (hy:y < 8) :
 cN (sendV fr c n v) (x * 8 + y)=cN n (x * 8 + y) + (if x=u∧y=v then -c else 0) + (if x=v∧y=u then c else 0):=by
 unfold sendV
 rw [hfr,cN_add (by rw [addAt_len,hn];omega),cN_add (by rw [hn];omega)]
 have e1:(x * 8 + y=u * 8 + v)=(x=u∧y=v):=by apply propext;omega
 have e2:(x * 8 + y=v * 8 + u)=(x=v∧y=u):=by apply propext;omega
 simp only [e1,e2]
theorem Left.sendV {B c:Int} {fr n:List Int} {v:Nat} (h:Left B n) (hv:v < 8) (hu:frN fr v < 8) (hne:frN fr v≠v) (h0:0≤c) (hc:c≤cN n (frN fr v * 8 + v)):Left B (sendV fr c n v):=by
 refine ⟨by rw [sendV_len,h.len],fun x y hx hy=>?_,fun x y hx hy hxy=>?_⟩
 ·rw [sendV_cell rfl h.len hv hu hx hy]
  have:=h.ge x y hx hy
  by_cases e1:x=frN fr v∧y=v
  ·rw [if_pos e1,if_neg (by omega)]
   obtain ⟨rfl,rfl⟩:=e1
   omega
  ·rw [if_neg e1]
   split<;>omega
 ·rw [sendV_cell rfl h.len hv hu hx hy,sendV_cell rfl h.len hv hu hy hx]
  have:=h.bd x y hx hy hxy
  by_cases e1:x=frN fr v∧y=v
  ·rw [if_pos e1,if_neg (by omega),if_neg (by omega),if_pos (by omega)];omega
  ·by_cases e2:x=v∧y=frN fr v
   ·rw [if_neg e1,if_pos e2,if_pos (by omega),if_neg (by omega)];omega
   ·rw [if_neg e1,if_neg e2,if_neg (by omega),if_neg (by omega)];omega
theorem Left.send {B c:Int} {fr:List Int} {p:List Nat} (hp:∀ v∈p,v < 8∧frN fr v < 8∧frN fr v≠v) (hnd:p.Nodup) (h0:0≤c):∀ n,Left B n→(∀ v∈p,c≤cN n (frN fr v * 8 + v))→Left B (sendP fr c n p):=by
 induction p with
 | nil=>intro n h _;exact h
 | cons v p ih =>
  intro n h hc
  obtain ⟨h1,h2,h3⟩:=hp v (by simp)
  obtain ⟨hnd1,hnd2⟩:=List.nodup_cons.1 hnd
  refine ih (fun u hu=>hp u (by simp [hu])) hnd2 _ (h.sendV h1 h2 h3 h0 (hc v (by simp))) fun u hu=>?_
  obtain ⟨g1,g2,g3⟩:=hp u (by simp [hu])
  rw [sendV_cell rfl h.len h1 h2 g2 g1]
  have:=hc u (by simp [hu])
  have hne:u≠v:=fun e=>hnd1 (e ▸ hu)
  rw [if_neg (by omega)]
  split<;>omega
structure Aq (n:List Int) (a:Nat) (fr:List Int) (dn:List Nat) (u:Nat) (i:Nat) (q:List Nat):Prop where
 len:fr.length=8
 src:gI fr a=a
 nd:(dn++u::q).Nodup
 mem:∀ v:Nat,v < 8→(0≤gI fr v↔v∈dn++u::q)
 lt:∀ v∈dn++u::q,v < 8
 pre:∀ (l r:List Nat) v,dn++u::q=l++v::r→v≠a→∃ x,gI fr v=(x:Nat)∧x∈l∧0 < cN n (x * 8 + v)
 done:∀ x∈dn,∀ v,v < 8→0 < cN n (x * 8 + v)→0≤gI fr v
 doing:∀ v,v < i→0 < cN n (u * 8 + v)→0≤gI fr v
def tryA (n:List Int) (u:Nat) (p:List Int × List Nat) (v:Nat):List Int × List Nat:=if 0 < cN n (u * 8 + v)∧gI p.1 v < 0 then (sI p.1 v u,p.2++[v]) else p
section
variable {n fr:List Int} {a u i:Nat} {dn q:List Nat}
theorem Aq.start (h:a < 8):Aq n a (sI (List.replicate 8 (-1)) a a) [] a 0 []:=by
 have hs:gI (sI (List.replicate 8 (-1)) a a) a=a:=gI_sI_same (by omega) (by simp;omega)
 refine ⟨by rw [sI_len];simp,hs,by simp,fun v hv=>?_,fun v hv=>by simp at hv;omega,fun l r v e hne=>?_,fun x hx=>absurd hx (List.not_mem_nil),fun v hv=>by omega⟩
 ·by_cases e:v=a
  ·subst e;rw [hs];simp
  ·rw [gI_sI_ne (by omega),gI_rep];simp [e]
 ·cases l with
  | nil=>simp at e;exact absurd e.1.symm hne
  | cons x l=>simp at e
theorem Aq.try_ (h:Aq n a fr dn u i q) (hi:i < 8):Aq n a (tryA n u (fr,q) i).1 dn u (i + 1) (tryA n u (fr,q) i).2∧(tryA n u (fr,q) i).2.length + cntN (tryA n u (fr,q) i).1=q.length + cntN fr:=by
 unfold tryA
 dsimp only
 by_cases hc:0 < cN n (u * 8 + i)∧gI fr i < 0
 ·rw [if_pos hc]
  dsimp only
  obtain ⟨hc1,hc2⟩:=hc
  have hs:gI (sI fr i u) i=u:=gI_sI_same (by omega) (by rw [h.len];omega)
  have hn:∀ z:Nat,z≠i→gI (sI fr i u) z=gI fr z:=fun z hz=>gI_sI_ne (by omega)
  have hni:i ∉ dn++u::q:=fun hm=>by have:=(h.mem i hi).2 hm;omega
  have hna:a≠i:=fun e=>by have:=h.src;rw [e] at this;omega
  have hap:dn++u::(q++[i])=(dn++u::q)++[i]:=by simp
  refine ⟨⟨by rw [sI_len,h.len],by rw [hn a hna,h.src],?_,fun v hv=>?_,fun v hv=>?_,fun l r v e hne=>?_,fun x hx v hv h2=>?_,fun v hv h2=>?_⟩,?_⟩
  ·rw [hap]
   exact List.nodup_append.2 ⟨h.nd,by simp,fun x hx y hy=>by simp at hy;subst hy;exact fun e=>hni (e ▸ hx)⟩
  ·rw [hap]
   by_cases e:v=i
   ·subst e;rw [hs];simp
   ·rw [hn v e,h.mem v hv];simp [e]
  ·rw [hap] at hv
   rcases List.mem_append.1 hv with hv|hv
   ·exact h.lt v hv
   ·simp at hv;omega
  ·rw [hap] at e
   rcases List.eq_nil_or_concat r with rfl|⟨r',y,rfl⟩
   ·have:=List.append_inj' e rfl
    obtain ⟨e1,e2⟩:=this
    simp at e2
    subst e2
    exact ⟨u,hs,by rw [← e1];simp,hc1⟩
   ·rw [List.concat_eq_append,← List.cons_append,← List.append_assoc] at e
    obtain ⟨e1,e2⟩:=List.append_inj' e rfl
    obtain ⟨x,g1,g2,g3⟩:=h.pre l r' v e1 hne
    refine ⟨x,?_,g2,g3⟩
    rw [hn v (fun e3=>hni (by rw [e1,← e3];simp))];exact g1
  ·have:=h.done x hx v hv h2
   by_cases e:v=i
   ·subst e;rw [hs];omega
   ·rw [hn v e];exact this
  ·by_cases e:v=i
   ·subst e;rw [hs];omega
   ·rw [hn v e];exact h.doing v (by omega) h2
  ·have:=cnt_sI (d:=fr) (v:=u) (show (0:Int)≤i by omega) (by rw [h.len];omega) hc2 (by omega)
   simp only [List.length_append,List.length_singleton]
   omega
 ·rw [if_neg hc]
  refine ⟨{ h with doing:=fun v hv h2=>?_ },rfl⟩
  by_cases e:v=i
  ·subst e
   have:=fun h3=>hc ⟨h2,h3⟩
   show 0≤gI fr v
   omega
  ·exact h.doing v (by omega) h2
theorem Aq.pop {w:Nat} (h:Aq n a fr dn u 8 (w::q)):Aq n a fr (dn++[u]) w 0 q:=by
 have e:dn++[u]++w::q=dn++u::w::q:=by simp
 refine ⟨h.len,h.src,by rw [e];exact h.nd,by rw [e];exact h.mem,by rw [e];exact h.lt,by rw [e];exact h.pre,fun x hx v hv h2=>?_,fun v hv=>by omega⟩
 rcases List.mem_append.1 hx with hx|hx
 ·exact h.done x hx v hv h2
 ·simp at hx;subst hx;exact h.doing v hv h2
theorem Aq.closed (h:Aq n a fr dn u 8 []) (x v:Nat) (hx:x < 8) (hv:v < 8) (h1:0≤gI fr x) (h2:0 < cN n (x * 8 + v)):0≤gI fr v:=by
 have:=(h.mem x hx).1 h1
 rcases List.mem_append.1 this with hm|hm
 ·exact h.done x hm v hv h2
 ·simp at hm;subst hm;exact h.doing v hv h2
theorem Aq.path (h:Aq n a fr dn u i q):∀ (k:Nat) (l r:List Nat) v,l.length=k→dn++u::q=l++v::r→∃ p,PathTo fr a v p∧p.Nodup∧∀ w∈p,(w∈l∨w=v)∧w < 8∧frN fr w < 8∧frN fr w≠w∧0 < cN n (frN fr w * 8 + w):=by
 intro k
 induction k using Nat.strongRecOn with
 | _ k ih =>
  intro l r v hl e
  by_cases hva:v=a
  ·subst hva;exact ⟨[],.nil,by simp,fun w hw=>by cases hw⟩
  ·obtain ⟨x,g1,g2,g3⟩:=h.pre l r v e hva
   obtain ⟨l1,l2,rfl⟩:=List.append_of_mem g2
   obtain ⟨p,p1,p2,p3⟩:=ih l1.length (by rw [← hl,List.length_append,List.length_cons];omega) l1 (l2++v::r) x rfl (by rw [e];simp)
   have hnd:=h.nd
   rw [e] at hnd
   have hvl:v ∉ l1++x::l2:=fun hm=>(List.nodup_append.1 hnd).2.2 v hm v (by simp) rfl
   have hfr:frN fr v=x:=by unfold frN;rw [g1];simp
   refine ⟨v::p,.cons hva g1 p1,List.nodup_cons.2 ⟨fun hm=>hvl ?_,p2⟩,fun w hw=>?_⟩
   ·rcases (p3 v hm).1 with h1|h1
    ·simp [h1]
    ·rw [← h1];simp
   ·rcases List.mem_cons.1 hw with rfl|hw
    ·refine ⟨.inr rfl,h.lt w (by rw [e];simp),by rw [hfr];exact h.lt x (by rw [e];simp),by rw [hfr];intro e2;exact hvl (by rw [← e2];simp),by rw [hfr];exact g3⟩
    ·obtain ⟨h1,h2⟩:=p3 w hw
     refine ⟨.inl ?_,h2⟩
     rcases h1 with h1|h1
     ·simp [h1]
     ·simp [h1]
end
structure IsFlow (f:Fab) (W:Nat→Bool) (a b:Nat) (s:Int):Prop where
 le:∀ χ:Nat→Bool,χ a=true→χ b=false→s≤capC f W χ
 eq:∃ χ:Nat→Bool,χ a=true∧χ b=false∧s=capC f W χ
theorem IsFlow.uniq {f:Fab} {W:Nat→Bool} {a b:Nat} {s t:Int} (h:IsFlow f W a b s) (k:IsFlow f W a b t):s=t:=by
 obtain ⟨χ,h1,h2,h3⟩:=h.eq
 obtain ⟨ψ,k1,k2,k3⟩:=k.eq
 have:=k.le χ h1 h2
 have:=h.le ψ k1 k2
 omega
structure Sent (f:Fab) (W:Nat→Bool) (B:Int) (a b:Nat) (s:Int) (n:List Int):Prop extends Left B n where
 cut:∀ χ:Nat→Bool,χ a=true→χ b=false→cutS χ n + s=capC f W χ
theorem cutS_nonneg {B:Int} {n:List Int} (h:Left B n) (χ:Nat→Bool):0≤cutS χ n:=by
 refine sum_nonneg 64 _ fun i hi=>?_
 split
 ·have:=h.ge (i / 8) (i % 8) (by omega) (by omega)
  rwa [show i / 8 * 8 + i % 8=i from by omega] at this
 ·exact Int.le_refl _
theorem Sent.stop {f:Fab} {W:Nat→Bool} {B s:Int} {a b u:Nat} {n fr:List Int} {dn:List Nat} (h:Sent f W B a b s n) (hq:Aq n a fr dn u 8 []) (_hb:b < 8) (hn:gI fr b < 0):IsFlow f W a b s:=by
 have hc:=h.cut (fun x=>decide (0≤gI fr x)) (by simp [hq.src]) (by simp;omega)
 have h0:cutS (fun x=>decide (0≤gI fr x)) n=0:=by
  refine sum_zero 64 _ fun i hi=>?_
  split
  ·rename_i hcr
   simp only [crossK,Bool.and_eq_true,decide_eq_true_eq,Bool.not_eq_true',decide_eq_false_iff_not] at hcr
   have h1:=h.ge (i / 8) (i % 8) (by omega) (by omega)
   rw [show i / 8 * 8 + i % 8=i from by omega] at h1
   have h2:¬ 0 < cN n (i / 8 * 8 + i % 8):=fun h3=>hcr.2 (hq.closed (i / 8) (i % 8) (by omega) (by omega) hcr.1 h3)
   rw [show i / 8 * 8 + i % 8=i from by omega] at h2
   omega
  ·rfl
 refine ⟨fun χ h1 h2=>?_,fun x=>decide (0≤gI fr x),by simp [hq.src],by simp;omega,by rw [← hc,h0];omega⟩
 have:=h.cut χ h1 h2
 have:=cutS_nonneg h.toLeft χ
 omega
theorem Sent.more {f:Fab} {W:Nat→Bool} {B s c:Int} {a b:Nat} {n fr:List Int} {p:List Nat} (h:Sent f W B a b s n) (ha:a < 8) (hp:PathTo fr a b p) (hnd:p.Nodup) (hpp:∀ v∈p,v < 8∧frN fr v < 8∧frN fr v≠v) (h0:0≤c) (hc:∀ v∈p,c≤cN n (frN fr v * 8 + v)) :
 Sent f W B a b (s + c) (sendP fr c n p):=by
 refine { Left.send hpp hnd h0 n h.toLeft hc with cut:=fun χ h1 h2=>?_ }
 rw [sendP_cut χ hp n h.len (fun u hu=>(hpp u hu).1) ha]
 have:=h.cut χ h1 h2
 have e:chi χ a - chi χ b=1:=by unfold chi;rw [h1,h2];rfl
 rw [e]
 omega
theorem Sent.start {f:Fab} {W:Nat→Bool} {B B':Int} (hB:0≤B) (hL:∀ i l,f.links[i]?=some l→W i=true→LkOK B l) (hB':2 * (f.links.length * B)≤B') (a b:Nat):Sent f W B' a b 0 (capM f W f.links.length):=by
 refine ⟨⟨capM_len _ _ _,fun u v _ _=>(capM_bd hB hL _ _).1,fun u v _ _ _=>?_⟩,fun χ _ _=>?_⟩
 ·have:=(capM_bd hB hL f.links.length (u * 8 + v)).2
  have:=(capM_bd hB hL f.links.length (v * 8 + u)).2
  omega
 ·rw [capM_cut hL];unfold capC;omega
def cutStep (f:Fab) (W:Nat→Bool) (a b:Nat) (m:Int) (s:Nat):Int:=if s.testBit a && !s.testBit b then (if m < 0∨capC f W s.testBit < m then capC f W s.testBit else m) else m
def minCut (f:Fab) (W:Nat→Bool) (a b:Nat) (k:Nat):Int:=(List.range k).foldl (cutStep f W a b) (-1)
theorem minCut_succ (f:Fab) (W:Nat→Bool) (a b k:Nat):minCut f W a b (k + 1)=cutStep f W a b (minCut f W a b k) k:=by
 unfold minCut;rw [List.range_succ,List.foldl_append];rfl
theorem bits_of (χ:Nat→Bool):∀ n:Nat,∃ s,s < 2 ^ n∧∀ x,x < n→s.testBit x=χ x:=by
 intro n
 induction n with
 | zero=>exact ⟨0,by simp,fun x hx=>by omega⟩
 | succ n ih =>
  obtain ⟨s,h1,h2⟩:=ih
  cases hc:χ n with
  | false =>
   refine ⟨s,by rw [Nat.pow_succ];omega,fun x hx=>?_⟩
   by_cases e:x=n
   ·subst e;rw [hc];exact Nat.testBit_lt_two_pow h1
   ·exact h2 x (by omega)
  | true =>
   refine ⟨2 ^ n + s,by rw [Nat.pow_succ];omega,fun x hx=>?_⟩
   by_cases e:x=n
   ·subst e;rw [hc,Nat.testBit_two_pow_add_eq,Nat.testBit_lt_two_pow h1];rfl
   ·rw [Nat.testBit_two_pow_add_gt (by omega)];exact h2 x (by omega)
section
variable {f:Fab} {W:Nat→Bool} {a b:Nat}
theorem capC_nonneg (hc:∀ i l,f.links[i]?=some l→W i=true→0≤l.c) (χ:Nat→Bool):0≤capC f W χ:=by
 refine sum_nonneg _ _ fun i hi=>?_
 unfold capI
 cases hl:f.links[i]? with
 | none=>exact Int.le_refl _
 | some l =>
  simp only
  split
  ·rename_i h
   simp only [Bool.and_eq_true] at h
   exact hc i l hl h.1
  ·exact Int.le_refl _
theorem minCut_ok (hc:∀ i l,f.links[i]?=some l→W i=true→0≤l.c) (k:Nat) :
 (minCut f W a b k=-1∧∀ s,s < k→¬ (s.testBit a=true∧s.testBit b=false)) ∨
 (0≤minCut f W a b k∧(∀ s,s < k→s.testBit a=true→s.testBit b=false→minCut f W a b k≤capC f W s.testBit)∧∃ s,s < k∧s.testBit a=true∧s.testBit b=false∧minCut f W a b k=capC f W s.testBit):=by
 induction k with
 | zero=>exact .inl ⟨rfl,fun s hs=>by omega⟩
 | succ k ih =>
  rw [minCut_succ]
  unfold cutStep
  have hn:=capC_nonneg hc k.testBit
  by_cases h:k.testBit a=true∧k.testBit b=false
  ·rw [if_pos (by rw [h.1,h.2];rfl)]
   refine .inr ?_
   rcases ih with ⟨g1,g2⟩|⟨g1,g2,s,g3,g4,g5,g6⟩
   ·rw [if_pos (by omega)]
    refine ⟨hn,fun s hs h1 h2=>?_,k,by omega,h.1,h.2,rfl⟩
    by_cases e:s=k
    ·subst e;exact Int.le_refl _
    ·exact absurd ⟨h1,h2⟩ (g2 s (by omega))
   ·split
    ·refine ⟨hn,fun s hs h1 h2=>?_,k,by omega,h.1,h.2,rfl⟩
     by_cases e:s=k
     ·subst e;exact Int.le_refl _
     ·have:=g2 s (by omega) h1 h2;omega
    ·refine ⟨g1,fun s hs h1 h2=>?_,s,by omega,g4,g5,g6⟩
     by_cases e:s=k
     ·subst e;omega
     ·exact g2 s (by omega) h1 h2
  ·rw [if_neg (by intro e;simp only [Bool.and_eq_true,Bool.not_eq_true'] at e;exact h e)]
   rcases ih with ⟨g1,g2⟩|⟨g1,g2,s,g3,g4,g5,g6⟩
   ·refine .inl ⟨g1,fun s hs=>?_⟩
    by_cases e:s=k
    ·subst e;exact h
    ·exact g2 s (by omega)
   ·refine .inr ⟨g1,fun s hs h1 h2=>?_,s,by omega,g4,g5,g6⟩
    by_cases e:s=k
    ·subst e;exact absurd ⟨h1,h2⟩ h
    ·exact g2 s (by omega) h1 h2
theorem capC_congr {χ ψ:Nat→Bool} (h:∀ i l,f.links[i]?=some l→W i=true→χ l.a.toNat=ψ l.a.toNat∧χ l.b.toNat=ψ l.b.toNat):capC f W χ=capC f W ψ:=by
 unfold capC
 congr 1
 refine List.map_congr_left fun i _=>?_
 unfold capI
 cases hl:f.links[i]? with
 | none=>rfl
 | some l =>
  simp only
  cases hW:W i with
  | false=>rfl
  | true=>obtain ⟨h1,h2⟩:=h i l hl hW;rw [h1,h2]
theorem minCut_flow {k:Nat} (hc:∀ i l,f.links[i]?=some l→W i=true→0≤l.c) (he:∀ i l,f.links[i]?=some l→W i=true→l.a.toNat < k∧l.b.toNat < k) (ha:a < k) (hb:b < k) (hab:a≠b):IsFlow f W a b (minCut f W a b (2 ^ k)):=by
 have key:∀ χ:Nat→Bool,χ a=true→χ b=false→∃ s,s < 2 ^ k∧s.testBit a=true∧s.testBit b=false∧capC f W s.testBit=capC f W χ:=fun χ h1 h2=>by
  obtain ⟨s,g1,g2⟩:=bits_of χ k
  exact ⟨s,g1,by rw [g2 a ha,h1],by rw [g2 b hb,h2],capC_congr fun i l hl hW=>⟨g2 _ (he i l hl hW).1,g2 _ (he i l hl hW).2⟩⟩
 rcases minCut_ok (a:=a) (b:=b) hc (2 ^ k) with ⟨g1,g2⟩|⟨g1,g2,s,g3,g4,g5,g6⟩
 ·obtain ⟨s,h1,h2,h3,_⟩:=key (fun x=>decide (x=a)) (by simp) (by simp;omega)
  exact absurd ⟨h2,h3⟩ (g2 s h1)
 ·refine ⟨fun χ h1 h2=>?_,_,g4,g5,g6⟩
  obtain ⟨s,k1,k2,k3,k4⟩:=key χ h1 h2
  rw [← k4]
  exact g2 s k1 k2 k3
end
end Go.Proofs.YtdflnmfjpoodlaaGreatDoor
