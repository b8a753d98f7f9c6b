/-
  Routes of one prefix from different members; the sanity check. The order of all routes: the sort, and both ranks.
-/
import Derived.Test.YthbegdeojkdlbaaCg
import Derived.Test.YthbegdeojkdlbaaMab
namespace Go.Proofs.Ythbegdeojkdlbaa
open Go.RowKit
theorem Rep.agg_nils {X:Nat→Prop} {w:World} {φ:Em} {v:Value} {cs cs':List AV} (h:Rep X w φ v (.agg cs)) (hl:cs.length=cs'.length) (hc:∀ (i:Nat) c,cs'[i]?=some c→cs[i]?=some c∨(cs[i]?=some .nils∧c=.isl [] 0)):Rep X w φ v (.agg cs'):=by
 cases h with
 | agg vs _ h1 h2 h3 =>
  refine .agg vs cs' (by omega) (fun i c hi=>?_) fun i u c hu hi=>?_
  ·rcases hc i c hi with h|⟨_,rfl⟩
   ·exact h2 i c h
   ·rfl
  ·rcases hc i c hi with h|⟨h,rfl⟩
   ·exact h3 i u c hu h
   ·exact (h3 i u .nils hu h).nil_isl
theorem AFn.arg0 {P:Program} {f:FuncId} {k:Nat} {a a':AV} {args:List AV} {H H':Hp} {v:AV} (h:AFn P f k (a'::args) H v H') (ha:∀ (X:Nat→Prop) (φ:Em) (w:World) (x:Value),Rep X w φ x a→Rep X w φ x a'):AFn P f k (a::args) H v H':=fun X φ w vals h1 h2 h3 h4 =>
 h X φ w vals h1 (fun i x b hx hb=>by
  match i with
  | 0=>simp at hb;subst hb;exact ha X φ w x (h2 0 x a hx rfl)
  | i + 1=>exact h2 (i + 1) x b hx hb) h3 h4
def RtsOk (rs:List Rt):Prop:=rs.length≤10∧(∀ r∈rs,OkR r)∧rs.Pairwise fun u w=>u.from_ < w.from_
def meds:List AV:=[.base (.int .i64 (-1)),.base (.int .i64 (-1)),.base (.int .i64 0),.base (.int .i64 1)]
theorem meds_at {i:Nat} (h:i < 4):∃ m:Int,(-1≤m∧m≤2)∧meds[0 + i * 1]?=some (.base (.int .i64 m)):=by
 rcases (show i=0∨i=1∨i=2∨i=3 by omega) with rfl|rfl|rfl|rfl<;>exact ⟨_,by decide,rfl⟩
set_option maxHeartbeats 2000000 in
theorem routes_any (l:List Int) (at_:Nat) (hl:l.length≤9223372036854775807) :
 ∃ v H',AFn Try.prog 6 1 [.own 0 0] (up mt 0 (some (deckC l at_))) v H'∧∃ (rs:List Rt) (at':Nat),(RtsOk rs∧rs.length≤5)∧v=.osl 1 0 rs.length 16∧H'=up (up mt 0 (some (deckC l at'))) 1 (some (rtsC rs)):=by
 refine AFn.ex Try.func6 rfl rfl (Nat.le_of_ble_eq_true rfl)<|Wq<|qW 1 2 rfl<|qA rfl<|Nl<|Wq<|qW 6 7 rfl<|qA rfl<|Nl<|Wq<|Wq<|qW 11 12 rfl<|qA rfl<|Nl<|W.name 12 (12 + 1) (t:=3) (sz:=16) rfl (by decide) (by decide)<|Wb<|W.loop_keep (α:=Nat × Nat × List Rt) (fun x=>5 - x.1) 2 (fun x=>[(0,.own 0 0),(3,.osl 1 0 x.2.2.length 16),(4,.base (.int .i64 (x.1:Int)))]) (fun x=>up (up mt 0 (some (deckC l x.2.1))) 1 (some (rtsC x.2.2))) (fun x=>(x.1≤5∧x.2.2.length≤x.1)∧(∀ r:Rt,r∈x.2.2→OkR r∧r.from_ < 101 + (x.1:Int))∧x.2.2.Pairwise fun u w=>u.from_ < w.from_) (0,at_,(([]:List Rt))) [(0,0),(1,12)] .nil (show (0≤5∧(([]:List Rt)).length≤0)∧(∀ r:Rt,r∈(([]:List Rt))→OkR r∧r.from_ < 101 + (0:Int))∧(([]:List Rt)).Pairwise fun u w=>u.from_ < w.from_ from ⟨⟨by decide,by decide⟩,fun x hx=>(by cases hx),List.Pairwise.nil⟩) (by decide) ?_ ?_ ?_
 ·exact lC (lI rfl) (lC (lI rfl) (lC (lR rfl) lN))
 ·exact aU (kR rfl) (aU (kR rfl) aM)
 rintro ⟨k,a,rs⟩ hIA ihA
 try (dsimp only at hIA)
 try dsimp only [baseT,List.cons_append,List.nil_append]
 obtain ⟨⟨hk,hrk⟩,hrf,hrp⟩:=hIA
 by_cases hc:k < 5
 rotate_left
 ·have g1:decide ((k:Int) < 5)=false:=decide_eq_false (by omega)
  refine Wq<|Wq<|qW 16 18 rfl<|qM rfl<|qK rfl<|Nl<|Wo rfl ‹_›<|Wx<|Wq<|qW 67 69 rfl<|qM rfl<|qA rfl<|Nl<|Wz ⟨.inl rfl,_,(up (up mt 0 (some (deckC l a))) 1 (some (rtsC rs))),(Rc (Rt0 rfl) Rv),(aU rfl (aU rfl aM)),?_⟩
  exact ⟨rs,a,⟨⟨by omega,fun r hr=>(hrf r hr).1,hrp⟩,by omega⟩,rfl,rfl⟩
 have g1:decide ((k:Int) < 5)=true:=decide_eq_true (by omega)
 have hkk:(k:Int) + 1=((k + 1:Nat):Int):=by omega
 obtain ⟨a1,ha1⟩:∃ a1,nextAt l a=a1:=⟨_,rfl⟩
 have n1:=next_any l a 3 (by decide) (by decide) hl
 obtain ⟨e1,he1⟩:∃ e1,nextV l a 3=e1:=⟨_,rfl⟩
 rw [he1,ha1] at n1
 refine Wq<|Wq<|qW 16 18 rfl<|qM rfl<|qK rfl<|Nl<|Wt rfl ‹_›<|Wu<|Wq<|Wb<|Wq<|qW 22 25 rfl<|qM rfl<|Od rfl rfl (C1 (fr:=[]) rfl rfl (n1) fok13 (.own rfl rfl (.cons rfl (.pure rfl) .nil)) rfl rfl rfl (Cn _ _) (by decide) rfl)<|qGt rfl<|Nl ?_
 rcases Bool.eq_false_or_eq_true (decide (e1 > 0)) with g2|g2
 rotate_left
 ·
  refine Wo rfl ‹_›<|Wu<|qW 60 63 rfl<|qM rfl<|qZ rfl (iW _ (by omega))<|qA rfl<|Nl ?_
  rw [hkk]
  refine WL.renameL [(0,0),(1,1)] 2 (by decide) ?_ ?_ (ihA ((k + 1),a1,rs) (show 5 - (k + 1) < 5 - k from by omega) (show ((k + 1)≤5∧rs.length≤(k + 1))∧(∀ r:Rt,r∈rs→OkR r∧r.from_ < 101 + ((k + 1):Int))∧rs.Pairwise fun u w=>u.from_ < w.from_ from ⟨⟨by omega,by omega⟩,fun r hr=>(by have:=hrf r hr;exact ⟨this.1,by omega⟩),hrp⟩))
  ·exact lC (lI rfl) (lC (lI rfl) (lC (lR rfl) lN))
  ·exact aU (kP rfl (rtsC_pure _)) (aU (kR rfl) aM)
 obtain ⟨_,_,hrt,r,a2,⟨hfr,hga⟩,rfl,rfl⟩:=route_any l a1 (101 + (k:Int)) hl
 obtain ⟨pf,fr,aa⟩:=r
 dsimp only at hfr hga
 obtain ⟨a3,ha3⟩:∃ a1,nextAt l a2=a1:=⟨_,rfl⟩
 have n3:=next_any l a2 4 (by decide) (by decide) hl
 have b3:=nextV_bd l a2 4 (by decide)
 obtain ⟨j,hj⟩:∃ j:Nat,nextV l a2 4=(j:Int):=⟨(nextV l a2 4).toNat,by omega⟩
 rw [hj] at b3
 rw [hj,ha3] at n3
 obtain ⟨m,hm,hme⟩:=meds_at (i:=j) (by omega)
 rw [rt_lit] at hrt
 have hap:rtsC rs++[.base (.bool pf.v6),.base (.int .u64 pf.hi),.base (.int .u64 pf.lo),.base (.int .i64 pf.len),.base (.int .i64 fr),.base (.int .i64 aa.org),.isl (segsC aa.path) aa.path.length,.base (.bool aa.nx.v6),.base (.int .u64 aa.nx.hi),.base (.int .u64 aa.nx.lo),.base (.int .i64 m),.base (.int .i64 aa.pref),.base (.int .i64 aa.otc),.isl aa.cc aa.cn,.isl aa.lc aa.ln,.isl aa.oc aa.on]=rtsC (rs++[⟨pf,fr,⟨aa.org,aa.path,aa.nx,m,aa.pref,aa.otc,aa.cc,aa.cn,aa.lc,aa.ln,aa.oc,aa.on⟩⟩]):=by rw [rtsC_app,rtsC_one];rfl
 obtain ⟨r2,hr2,hr2o,hr2f⟩:∃ r2:Rt,(⟨pf,fr,⟨aa.org,aa.path,aa.nx,m,aa.pref,aa.otc,aa.cc,aa.cn,aa.lc,aa.ln,aa.oc,aa.on⟩⟩:Rt)=r2∧OkR r2∧r2.from_=101 + (k:Int):=⟨_,rfl,⟨hga.2.2.1,hga.2.2.2,hm.1⟩,hfr⟩
 rw [hr2] at hap
 have hl1:rs.length + 1=(rs++[r2]).length:=by simp
 refine Wt rfl ‹_›<|Wq<|qW 29 35 rfl<|qM rfl<|qM rfl<|qZ rfl (iW _ (by omega))<|Od rfl rfl (C1 (fr:=[]) rfl rfl (hrt) fok14 (.own rfl rfl (.cons rfl (.pure rfl) .nil)) rfl rfl rfl (Cn _ _) (by decide) rfl)<|qB rfl ty54<|qS rfl ty54 (Sl rfl) rfl<|Nl<|Wq<|qW 39 47 rfl<|Od rfl rfl (LO.buildSlice rfl ty22 ty3 (by decide) (by decide) (.cons rfl rfl rfl rfl (Sl rfl) (.cons rfl rfl rfl rfl (Sl rfl) (.cons rfl rfl rfl rfl (Sl rfl) (.cons rfl rfl rfl rfl (Sl rfl) .nil)))))<|qM rfl<|Od rfl rfl (C1 (fr:=[]) rfl rfl (n3) fok13 (.own rfl rfl (.cons rfl (.pure rfl) .nil)) rfl rfl rfl (Cn _ _) (by decide) rfl)<|Od rfl rfl (Ia rfl rfl rfl rfl ty22 ty3 (by omega))<|Od rfl rfl (Ld rfl rfl rfl hme ty3 rfl)<|qF rfl ty54 rfl<|qF rfl ty52 rfl<|qS rfl ty3 (Sl rfl) rfl<|Nl<|qW 51 56 rfl<|qM rfl<|qG rfl ty54 rfl (Tl rfl)<|Od rfl rfl (LO.buildSlice rfl ty29 ty54 (by decide) (by decide) (.cons rfl rfl rfl rfl (Sl rfl) .nil))<|Od rfl rfl (Lap rfl rfl (Sso rfl rfl (Tl rfl)) rfl (rts_tk rfl) ty29 ty29 ty54 (by decide) (by omega) (by omega) (by decide))<|qA rfl<|Nl ?_
 rw [hap,hl1]
 refine qW 60 63 rfl<|qM rfl<|qZ rfl (iW _ (by omega))<|qA rfl<|Nl ?_
 rw [hkk]
 refine WL.renameL [(0,0),(1,54)] 2 (by decide) ?_ ?_ (ihA ((k + 1),a3,(rs++[r2])) (show 5 - (k + 1) < 5 - k from by omega) (show ((k + 1)≤5∧(rs++[r2]).length≤(k + 1))∧(∀ r:Rt,r∈(rs++[r2])→OkR r∧r.from_ < 101 + ((k + 1):Int))∧(rs++[r2]).Pairwise fun u w=>u.from_ < w.from_ from ⟨⟨by omega,by rw [← hl1];omega⟩,fun r hr=>(by rcases List.mem_append.1 hr with h|h;exact ⟨(hrf r h).1,by have:=(hrf r h).2;omega⟩;rw [List.mem_singleton] at h;subst h;exact ⟨hr2o,by omega⟩),List.pairwise_append.2 ⟨hrp,List.pairwise_singleton _ _,fun x hx y hy=>(by rw [List.mem_singleton] at hy;subst hy;have:=(hrf x hx).2;omega)⟩⟩))
 ·exact lC (lI rfl) (lC (lI rfl) (lC (lR rfl) lN))
 ·exact aU (kP rfl (rtsC_pure _)) (aU (kR rfl) aM)
def awA:Rt:=⟨⟨false,0,0,0⟩,1,⟨0,[(false,[1,7])],⟨false,0,0⟩,0,0,0,[],0,[],0,[],0⟩⟩
def awB:Rt:=⟨⟨false,0,0,0⟩,2,⟨0,[(false,[2,8,9])],⟨false,0,0⟩,0,0,0,[],0,[],0,[],0⟩⟩
set_option maxHeartbeats 2000000 in
theorem awake_any:AFn Try.prog 12 0 [] mt (.base (.bool true)) mt:=by
 refine AFn.eq Try.func12 rfl rfl (Nat.le_of_ble_eq_true rfl) ?_
 have okA:OkR awA:=⟨by decide,by decide,by decide⟩
 have okB:OkR awB:=⟨by decide,by decide,by decide⟩
 have h1:=compare_any ⟨3,false,false,false,0,[],0,[]⟩ awA awB (by decide) okA okB
 have h2:=compare_any ⟨3,false,false,false,0,[],0,[(2,10)]⟩ awA awB (by decide) okA okB
 have e1:cmpF ⟨3,false,false,false,0,[],0,[]⟩ awA awB=(-1,2):=by decide
 have e2:cmpF ⟨3,false,false,false,0,[],0,[(2,10)]⟩ awA awB=(1,1):=by decide
 rw [e1] at h1
 rw [e2] at h2
 have h1':=AFn.arg0 (a:=.agg [.base (.int .i64 3),.base (.bool false),.base (.bool false),.base (.bool false),.base (.int .i64 0),.nils,.nils]) h1 fun X φ w x h=>h.agg_nils rfl fun i c hi=>by
  match i with
  | 0|1|2|3|4=>exact .inl hi
  | 5|6=>exact .inr ⟨rfl,by injection hi with hi;exact hi.symm⟩
  | i + 7=>cases hi
 have h2':=AFn.arg0 (a:=.agg [.base (.int .i64 3),.base (.bool false),.base (.bool false),.base (.bool false),.base (.int .i64 0),.nils,.isl [.base (.int .i64 2),.base (.int .i64 10)] 1]) h2 fun X φ w x h=>h.agg_nils rfl fun i c hi=>by
  match i with
  | 0|1|2|3|4|6=>exact .inl hi
  | 5=>exact .inr ⟨rfl,by injection hi with hi;exact hi.symm⟩
  | i + 7=>cases hi
 unfold cmpV at h1' h2'
 refine Wq<|qW 0 1 rfl<|qA rfl<|Nl<|Wq<|qW 5 12 rfl<|Od rfl rfl (LO.buildSlice rfl ty22 ty3 (by decide) (by decide) (.cons rfl rfl rfl rfl (Sl rfl) (.cons rfl rfl rfl rfl (Sl rfl) .nil)))<|Od rfl rfl (Bs rfl ty61 (.cons rfl rfl rfl rfl (Sl rfl) .nil))<|Od rfl rfl (LO.buildSlice rfl ty47 ty61 (by decide) (by decide) (.cons rfl rfl rfl rfl (Sl rfl) .nil))<|Od rfl rfl (Bs rfl ty52 (.cons rfl rfl rfl rfl (Sl rfl) .nil))<|Od rfl rfl (Bs rfl ty54 (.cons rfl rfl rfl rfl (Sl rfl) (.cons rfl rfl rfl rfl (Sl rfl) .nil)))<|qB rfl ty54<|qS rfl ty54 (Sl rfl) rfl<|Nl<|Wq<|qW 16 23 rfl<|Od rfl rfl (LO.buildSlice rfl ty22 ty3 (by decide) (by decide) (.cons rfl rfl rfl rfl (Sl rfl) (.cons rfl rfl rfl rfl (Sl rfl) (.cons rfl rfl rfl rfl (Sl rfl) .nil))))<|Od rfl rfl (Bs rfl ty61 (.cons rfl rfl rfl rfl (Sl rfl) .nil))<|Od rfl rfl (LO.buildSlice rfl ty47 ty61 (by decide) (by decide) (.cons rfl rfl rfl rfl (Sl rfl) .nil))<|Od rfl rfl (Bs rfl ty52 (.cons rfl rfl rfl rfl (Sl rfl) .nil))<|Od rfl rfl (Bs rfl ty54 (.cons rfl rfl rfl rfl (Sl rfl) (.cons rfl rfl rfl rfl (Sl rfl) .nil)))<|qB rfl ty54<|qS rfl ty54 (Sl rfl) rfl<|Nl<|Wv (q:=7) (j:=1) (r:=5) rfl rfl (by decide) rfl (ints_tk (l:=[1,7]) rfl) (intsC_pure _) (Sl rfl)<|Wv (q:=10) (j:=6) (r:=7) rfl rfl (by decide) rfl (Tl rfl) rfl (Sl rfl)<|Wv (q:=18) (j:=1) (r:=16) rfl rfl (by decide) rfl (ints_tk (l:=[2,8,9]) rfl) (intsC_pure _) (Sl rfl)<|Wv (q:=21) (j:=6) (r:=18) rfl rfl (by decide) rfl (Tl rfl) rfl (Sl rfl)<|W.nilc (q:=10) (j:=13) rfl rfl (Sl rfl)<|W.nilc (q:=10) (j:=14) rfl rfl (Sl rfl)<|W.nilc (q:=10) (j:=15) rfl rfl (Sl rfl)<|W.nilc (q:=21) (j:=13) rfl rfl (Sl rfl)<|W.nilc (q:=21) (j:=14) rfl rfl (Sl rfl)<|W.nilc (q:=21) (j:=15) rfl rfl (Sl rfl)<|Wq<|qW 27 36 rfl<|Od rfl rfl (Bs rfl ty27 (.cons rfl rfl rfl rfl (Sl rfl) .nil))<|qG rfl ty54 rfl (Tl rfl)<|qG rfl ty54 rfl (Tl rfl)<|qY rfl (h1') fok15 rfl<|qM rfl<|qX rfl<|qX rfl<|qA rfl<|qA rfl<|Nl<|Wq<|qW 40 51 rfl<|Od rfl rfl (Bs rfl ty41 (.cons rfl rfl rfl rfl (Sl rfl) (.cons rfl rfl rfl rfl (Sl rfl) .nil)))<|Od rfl rfl (LO.buildSlice rfl ty25 ty41 (by decide) (by decide) (.cons rfl rfl rfl rfl (Sl rfl) .nil))<|Od rfl rfl (Bs rfl ty27 (.cons rfl rfl rfl rfl (Sl rfl) (.cons rfl rfl rfl rfl (Sl rfl) .nil)))<|qG rfl ty54 rfl (Tl rfl)<|qG rfl ty54 rfl (Tl rfl)<|Od rfl rfl (C0 (fr:=[41]) rfl rfl (h2') fok15 (.cons rfl (.agg (.cons (.same rfl) (.cons (.same rfl) (.cons (.same rfl) (.cons (.same rfl) (.cons (.same rfl) (.cons (.same rfl) (.cons (.osl (by decide) rfl (Tl rfl) rfl) .nil)))))))) (.cons rfl (.pure rfl) (.cons rfl (.pure rfl) .nil))) rfl)<|qM rfl<|qX rfl<|qX rfl<|qA rfl<|qA rfl<|Nl<|Wq<|qW 55 70 rfl<|qM rfl<|qE rfl<|qM rfl<|gM rfl rfl<|gE rfl rfl<|qT rfl rfl rfl<|qM rfl<|gM rfl rfl<|gE rfl rfl<|qT rfl rfl rfl<|qM rfl<|gM rfl rfl<|gE rfl rfl<|qT rfl rfl rfl<|qA rfl<|Nl<|Wz ⟨.inl rfl,_,mt,(Rc (Rt0 rfl) Rv),aM,?_⟩
 exact ⟨rfl,rfl⟩
def natsC (l:List Nat):List AV:=l.map fun (n:Nat)=>.base (.int .i64 (n:Int))
theorem natsC_len (l:List Nat):(natsC l).length=l.length:=by simp [natsC]
theorem natsC_pure (l:List Nat):(natsC l).all AV.pure1=true:=by simp [natsC,List.all_eq_true,AV.pure1]
theorem natsC_app (a b:List Nat):natsC (a++b)=natsC a++natsC b:=by simp [natsC]
theorem natsC_ne {l:List Nat} (h:1≤l.length):natsC l≠[]:=fun e=>by have:=natsC_len l;rw [e] at this;simp at this;omega
theorem nats_tk {l:List Nat} {n:Nat} (h:l.length=n):Tk (natsC l) 0 (n * 1) (natsC l):=by
 have:=Tk.all (natsC l)
 rw [natsC_len,h] at this
 rwa [Nat.mul_one]
theorem nats_at {l:List Nat} {i:Nat} (h:i < l.length):(natsC l)[0 + i * 1]?=some (.base (.int .i64 (l[i]:Int))):=by simp [natsC,h]
theorem nats_sp {l:List Nat} {k v:Nat} (h:k < l.length):Sp (natsC l) (0 + k * 1) [.base (.int .i64 (v:Int))] (natsC (l.set k v)):=by
 have:=Sp.set (natsC l) k (.base (.int .i64 (v:Int))) (by rw [natsC_len];exact h)
 rw [Nat.zero_add,Nat.mul_one,show natsC (l.set k v)=(natsC l).set k (.base (.int .i64 (v:Int))) from by simp [natsC,List.map_set]]
 exact this
def insP (c:Nat→Nat→Int) (S:List Nat) (x:Nat):Nat→Nat
 | 0=>0
 | k + 1=>if c x (S.getD k 0) < 0 then insP c S x k else k + 1
theorem insP_le (c:Nat→Nat→Int) (S:List Nat) (x:Nat):∀ k,insP c S x k≤k:=by
 intro k
 induction k with
 | zero=>exact Nat.le_refl _
 | succ k ih=>unfold insP;split<;>omega
def ins (c:Nat→Nat→Int) (S:List Nat) (x:Nat):List Nat:=S.take (insP c S x S.length)++x::S.drop (insP c S x S.length)
theorem ins_len (c:Nat→Nat→Int) (S:List Nat) (x:Nat):(ins c S x).length=S.length + 1:=by
 have:=insP_le c S x S.length
 unfold ins
 rw [List.length_append,List.length_take,List.length_cons,List.length_drop]
 omega
def isortN (c:Nat→Nat→Int):Nat→List Nat
 | 0=>[]
 | k + 1=>ins c (isortN c k) k
theorem isortN_len (c:Nat→Nat→Int):∀ k,(isortN c k).length=k:=by
 intro k
 induction k with
 | zero=>rfl
 | succ k ih=>unfold isortN;rw [ins_len,ih]
theorem ins_mem {c:Nat→Nat→Int} {S:List Nat} {x y:Nat} (h:y∈ins c S x):y∈S∨y=x:=by
 unfold ins at h
 rcases List.mem_append.1 h with h|h
 ·exact .inl (List.mem_of_mem_take h)
 ·rcases List.mem_cons.1 h with h|h
  ·exact .inr h
  ·exact .inl (List.mem_of_mem_drop h)
theorem isortN_lt (c:Nat→Nat→Int):∀ k,∀ y,y∈isortN c k→y < k:=by
 intro k
 induction k with
 | zero=>intro y h;cases h
 | succ k ih =>
  intro y h
  rcases ins_mem h with h|h
  ·have:=ih y h;omega
  ·omega
def midL (S:List Nat) (x:Nat) (R:List Nat) (j:Nat):List Nat:=S.take j++x::S.drop j++R
theorem midL_len {S R:List Nat} {x j:Nat}:(midL S x R j).length=S.length + 1 + R.length:=by
 unfold midL
 simp
 omega
theorem nats_at' {l:List Nat} {i v:Nat} (h:l[i]?=some v):(natsC l)[0 + i * 1]?=some (.base (.int .i64 (v:Int))):=by simp [natsC,h]
theorem midL_at {S R:List Nat} {x j:Nat} (h:j≤S.length):(midL S x R j)[j]?=some x:=by
 unfold midL
 have l1:(S.take j).length=j:=by rw [List.length_take];omega
 rw [List.append_assoc,List.getElem?_append_right (by omega),l1,Nat.sub_self]
 rfl
theorem midL_prev {S R:List Nat} {x j:Nat} (h:j + 1≤S.length):(midL S x R (j + 1))[j]?=some (S.getD j 0):=by
 unfold midL
 have l1:(S.take (j + 1)).length=j + 1:=by rw [List.length_take];omega
 rw [List.append_assoc,List.getElem?_append_left (by omega),List.getElem?_take_of_lt (by omega)]
 simp [show j < S.length from by omega]
theorem midL_swap {S R:List Nat} {x j:Nat} (h:j + 1≤S.length):((midL S x R (j + 1)).set (j + 1) (S.getD j 0)).set j x=midL S x R j:=by
 have hj:j < S.length:=by omega
 have e1:S.getD j 0=S[j]:=by simp [hj]
 have e2:S.take (j + 1)=S.take j++[S[j]]:=List.take_succ_eq_append_getElem hj
 have e3:S.drop j=S[j]::S.drop (j + 1):=List.drop_eq_getElem_cons hj
 have l1:(S.take j).length=j:=by rw [List.length_take];omega
 unfold midL
 rw [e1,e2,e3]
 simp only [List.append_assoc,List.cons_append,List.nil_append]
 rw [List.set_append_right _ _ (by omega),l1,show j + 1 - j=1 from by omega]
 simp only [List.set_cons_succ,List.set_cons_zero]
 rw [List.set_append_right _ _ (by omega),l1,Nat.sub_self]
 simp
def cmpN (p:Po) (l:List Rt) (i k:Nat):Int:=(cmpF p (gR l i) (gR l k)).1
theorem clo_any (p:Po) (l:List Rt) (hp:p.pr.length≤1000) (ho:∀ r∈l,OkR r) (i k:Nat) (hi:i < l.length) (hk:k < l.length):AFn Try.prog 18 0 ([.base (.int .i64 (i:Int)),.base (.int .i64 (k:Int))]++[.imm (poC p) 0,.imm [.isl (rtsC l) l.length] 0]) mt (.base (.int .i64 (cmpN p l i k))) mt:=by
 refine AFn.eq Try.func18 rfl rfl (Nat.le_of_ble_eq_true rfl) ?_
 have hc:=compare_any p (gR l i) (gR l k) hp (by rw [gR_at hi];exact ho _ (List.getElem_mem hi)) (by rw [gR_at hk];exact ho _ (List.getElem_mem hk))
 have ti:=gR_tk hi
 have tk:=gR_tk hk
 unfold cmpV at hc
 unfold cmpN
 rw [po_lit] at hc ⊢
 generalize gR l i=a at *
 generalize gR l k=b at *
 refine Wq<|qW 0 1 rfl<|qA rfl<|Nl<|Wq<|Wd 5 20 (by decide) rfl mixed rfl<|Od rfl rfl (Lg rfl rfl ty27 rfl (Tl rfl))<|Od rfl rfl (Li rfl rfl rfl ty29 rfl)<|qM rfl<|qJ rfl rfl ty29 ty54 (by omega)<|Od rfl rfl (Lg rfl rfl ty54 rfl ti)<|Od rfl rfl (Li rfl rfl rfl ty29 rfl)<|qM rfl<|qJ rfl rfl ty29 ty54 (by omega)<|Od rfl rfl (Lg rfl rfl ty54 rfl tk)<|qY rfl (hc) fok15 rfl<|qM rfl<|qX rfl<|qX rfl<|qA rfl<|qA rfl<|Nl ⟨by kernel_rfl,(Wq<|qW 24 26 rfl<|qM rfl<|qA rfl<|Nl<|Wz ⟨.inl rfl,_,mt,Rc (Rt0 rfl) (Rv),aM,?_⟩)⟩
 exact ⟨rfl,rfl⟩
end Go.Proofs.Ythbegdeojkdlbaa
