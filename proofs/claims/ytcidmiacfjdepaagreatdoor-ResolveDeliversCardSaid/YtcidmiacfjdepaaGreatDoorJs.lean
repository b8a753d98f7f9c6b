/-
  A database that was made is right, and its ports are in order. A request for the address of a port goes to this port.
-/
import Derived.Test.YtcidmiacfjdepaaGreatDoorJl
import Derived.Test.YtcidmiacfjdepaaGreatDoorMab
import Derived.Test.YtcidmiacfjdepaaGreatDoorQn
namespace Go.Proofs.YtcidmiacfjdepaaGreatDoor
open Go.RowKit
theorem at_all {l:List Prt} {Q:Prt→Prop} (h:∀ (i:Nat) (h:i < l.length),Q l[i]):∀ p,p∈l→Q p:=fun p hp=>by
  obtain ⟨i,hi,rfl⟩:=List.getElem_of_mem hp
  exact h i hi
theorem flat_good:∀ (A:List Mem) (c:Int),(∀ (j:Nat) (h:j < A.length) (i:Nat) (hi:i < A[j].ports.length),PGood (c + cntP (A.take j) + 1 + i) A[j].ports[i])→∀ (i:Nat) (h:i < (A.flatMap (·.ports)).length),PGood (c + 1 + i) (A.flatMap (·.ports))[i]:=by
  intro A
  induction A with
  | nil=>intro c _ i h;simp at h
  | cons x A ih =>
    intro c hg i h
    have hx:=hg 0 (by simp)
    simp only [List.getElem_cons_zero,List.take_zero] at hx
    have hr:=ih (c + x.ports.length) fun j hj i hi=>by
      have:=hg (j + 1) (by simpa using hj) i (by simpa using hi)
      simp only [List.getElem_cons_succ,List.take_succ_cons] at this
      rw [show c + (x.ports.length:Int) + cntP (A.take j) + 1 + i=c + cntP (x::A.take j) + 1 + i from by unfold cntP;simp;omega]
      exact this
    simp only [List.flatMap_cons] at h ⊢
    rcases Nat.lt_or_ge i x.ports.length with h1|h1
    · rw [List.getElem_append_left h1]
      have:=hx i h1
      rwa [show c + cntP [] + 1 + (i:Int)=c + 1 + i from by unfold cntP;simp] at this
    · rw [List.getElem_append_right h1]
      rw [List.length_append] at h
      have:=hr (i - x.ports.length) (by omega)
      rwa [show c + (x.ports.length:Int) + 1 + ((i - x.ports.length:Nat):Int)=c + 1 + i from by omega] at this
theorem flatP_le:∀ (A:List Mem),(∀ m,m∈A→m.ports.length≤2)→(A.flatMap (·.ports)).length≤2 * A.length:=by
  intro A
  induction A with
  | nil=>intro _;simp
  | cons x A ih =>
    intro h
    have:=ih fun m hm=>h m (by simp [hm])
    have:=h x (by simp)
    rw [List.flatMap_cons,List.length_append,List.length_cons]
    omega
structure DbFine (l:List Int) (d:Db):Prop where
  ok:DbOk d
  once:Once d
  ports:portsOf d=allP d
  len:2≤(allP d).length∧(allP d).length≤14
  good:∀ (i:Nat) (h:i < (allP d).length),PGood (1 + i) (allP d)[i]
  nil:l=[]→∀ p,p∈allP d→p.v4≠⟨false,0,0⟩
theorem DbMade.mem {l:List Int} {d:Db} (h:DbMade l d):∀ (j:Nat) (hj:j < (d.servers++d.members).length),∃ asn name,MGood l asn name (cntP ((d.servers++d.members).take j)) (d.servers++d.members)[j]∧(asn=65000∨∃ k:Nat,k < 5∧asn=1 + 7 * (k:Int))∧NameOk name:=fun j hj=>by
  rw [List.length_append] at hj
  have hns:=h.ns
  have hnm:=h.nm
  rcases Nat.lt_or_ge j d.servers.length with h1|h1
  · rw [List.getElem_append_left h1,List.take_append_of_le_length (by omega)]
    refine ⟨_,_,h.srv j h1,.inl rfl,?_⟩
    match j,(show j < 2 by omega) with
    | 0,_=>exact .of (by decide +kernel)
    | 1,_=>exact .of (by decide +kernel)
  · rw [List.getElem_append_right h1]
    have:=h.mbr (j - d.servers.length) (by omega)
    refine ⟨_,mbrN (j - d.servers.length),?_,.inr ⟨j - d.servers.length,by omega,rfl⟩,?_⟩
    · rw [List.take_append,List.take_of_length_le h1]
      exact this
    · generalize hk:j - d.servers.length=k
      match k,(show k < 5 by omega) with
      | 0,_=>exact .of (by decide +kernel)
      | 1,_=>exact .of (by decide +kernel)
      | 2,_=>exact .of (by decide +kernel)
      | 3,_=>exact .of (by decide +kernel)
      | 4,_=>exact .of (by decide +kernel)
theorem macF_small {n:Int} (h0:0≤n) (h1:n≤255):macF n=[2,0,0,0,0,n]:=by
  unfold macF
  rw [show (2:Int) ^ (min (24:Int).toNat IntKind.i64.bits)=16777216 from by decide,show (2:Int) ^ (min (16:Int).toNat IntKind.i64.bits)=65536 from by decide,show (2:Int) ^ (min (8:Int).toNat IntKind.i64.bits)=256 from by decide]
  rw [Int.fdiv_eq_ediv_of_nonneg _ (by decide),Int.fdiv_eq_ediv_of_nonneg _ (by decide),Int.fdiv_eq_ediv_of_nonneg _ (by decide)]
  rw [show n / 16777216=0 from by omega,show n / 65536=0 from by omega,show n / 256=0 from by omega]
  rw [show IntKind.u8.wrap n=n from by rw [IntKind.wrap_u8'];omega]
  rfl
theorem PGood.mac {n:Int} {p:Prt} (h:PGood n p) (h0:1≤n) (h1:n≤14):∀ m,m∈p.macs→m=[2,0,0,0,0,100 + n]∨m=[2,0,0,0,0,200 + n]:=fun m hm=>by
  rcases h.macs with e|e<;>rw [e] at hm<;>simp at hm
  · rw [hm];exact .inl (macF_small (by omega) (by omega))
  · rcases hm with e|e<;>rw [e]
    · exact .inl (macF_small (by omega) (by omega))
    · exact .inr (macF_small (by omega) (by omega))
theorem PGood.len {n:Int} {p:Prt} (h:PGood n p):1≤p.macs.length∧p.macs.length≤2:=by
  rcases h.macs with e|e<;>rw [e]<;>simp
theorem PGood.ok {n:Int} {p:Prt} (h:PGood n p) (h0:1≤n) (h1:n≤14):PrtOk p:=by
  have hid:=h.id
  have hsw:=h.sw
  have hspd:=h.speed
  have hf:(⟨n.toNat,by omega⟩:Fin 15).val=n.toNat:=rfl
  have en:((n.toNat:Nat):Int)=n:=by omega
  refine ⟨by omega,by omega,by omega,h.len,fun m hm=>?_,?_,?_,?_⟩
  · rcases h.mac h0 h1 m hm with e|e<;>rw [e]
    · exact ⟨rfl,fun x hx=>by simp at hx;omega,rfl,fun h=>by injection h with h _;cases h⟩
    · exact ⟨rfl,fun x hx=>by simp at hx;omega,rfl,fun h=>by injection h with h _;cases h⟩
  · rcases h.a with ⟨e,_⟩|⟨e,_⟩|⟨e,_⟩
    · exact .inr ⟨⟨n.toNat,by omega⟩,by rw [e];dsimp only;rw [en]⟩
    · exact .inl e
    · exact .inr ⟨⟨n.toNat,by omega⟩,by rw [e];dsimp only;rw [en]⟩
  · rcases h.a with ⟨_,e⟩|⟨_,e⟩|⟨_,e⟩
    · exact .inl e
    · exact .inr ⟨⟨n.toNat,by omega⟩,by rw [e];dsimp only;rw [en]⟩
    · exact .inr ⟨⟨n.toNat,by omega⟩,by rw [e];dsimp only;rw [en]⟩
  · intro e4 e6
    rcases h.a with ⟨e,_⟩|⟨_,e⟩|⟨_,e⟩
    · rw [e] at e4
      have:=congrArg Ad.lo e4
      unfold fourA at this
      dsimp only at this
      omega
    · rw [e] at e6
      have:=congrArg Ad.lo e6
      unfold sixA at this
      dsimp only at this
      omega
    · rw [e] at e6
      have:=congrArg Ad.lo e6
      unfold sixA at this
      dsimp only at this
      omega
theorem PGood.ad {n:Int} {p:Prt} (h:PGood n p):∀ a,a∈adsP p→a=fourA n∨a=sixA n:=fun a ha=>by
  unfold adsP at ha
  rcases List.mem_append.1 ha with ha|ha
  · split at ha
    · simp at ha
    · rename_i hz
      simp at ha
      rcases h.a with ⟨e,_⟩|⟨e,_⟩|⟨e,_⟩
      · exact .inl (ha.trans e)
      · rw [e] at hz;exact absurd rfl hz
      · exact .inl (ha.trans e)
  · split at ha
    · simp at ha
    · rename_i hz
      simp at ha
      rcases h.a with ⟨_,e⟩|⟨_,e⟩|⟨_,e⟩
      · rw [e] at hz;exact absurd rfl hz
      · exact .inr (ha.trans e)
      · exact .inr (ha.trans e)
theorem nodup_flat {α β:Type} {f:α→List β} {l:List α} (h1:∀ x,x∈l→(f x).Nodup) (h2:l.Pairwise fun a b=>∀ x,x∈f a→x ∉ f b):(l.flatMap f).Nodup:=by
  induction l with
  | nil=>simp
  | cons x l ih =>
    rw [List.pairwise_cons] at h2
    rw [List.flatMap_cons,List.nodup_append]
    refine ⟨h1 x (by simp),ih (fun y hy=>h1 y (by simp [hy])) h2.2,fun a ha b hb e=>?_⟩
    subst e
    obtain ⟨y,hy,hyb⟩:=List.mem_flatMap.1 hb
    exact h2.1 y hy a ha hyb
theorem tags_ne {n m:Int} {p q:Prt} (hp:PGood n p) (hq:PGood m q) (h0:1≤n) (h1:n < m) (h2:m≤14):(∀ x,x∈p.macs→x ∉ q.macs)∧(∀ a,a∈adsP p→a ∉ adsP q):=by
  constructor
  · intro x hx hy
    rcases hp.mac h0 (by omega) x hx with e|e<;>rcases hq.mac (by omega) h2 x hy with e2|e2<;>rw [e] at e2<;>simp at e2<;>omega
  · intro a ha hb
    rcases hp.ad a ha with e|e<;>rcases hq.ad a hb with e2|e2<;>rw [e] at e2<;>simp [fourA,sixA] at e2<;>omega
theorem DbMade.fine {l:List Int} {d:Db} (h:DbMade l d):DbFine l d:=by
  have hns:=h.ns
  have hnm:=h.nm
  have hmem:=h.mem
  obtain ⟨A,hA⟩:∃ A,A=d.servers++d.members:=⟨_,rfl⟩
  have hAl:A.length=d.servers.length + d.members.length:=by rw [hA,List.length_append]
  have hm:∀ m,m∈d.servers++d.members→∃ asn name n,MGood l asn name n m∧(asn=65000∨∃ k:Nat,k < 5∧asn=1 + 7 * (k:Int))∧NameOk name:=fun m hm=>by
    obtain ⟨j,hj,rfl⟩:=List.getElem_of_mem hm
    obtain ⟨asn,name,h1,h2,h3⟩:=hmem j hj
    exact ⟨asn,name,_,h1,h2,h3⟩
  have hgood:∀ (i:Nat) (h:i < (allP d).length),PGood (1 + i) (allP d)[i]:=fun i hi=>by
    have:=flat_good (d.servers++d.members) 0 (fun j hj i hi=>by
      obtain ⟨_,_,h1,_⟩:=hmem j hj
      have:=h1.ports i hi
      rwa [Int.zero_add]) i hi
    rwa [Int.zero_add] at this
  have hle:(allP d).length≤14:=by
    have:=flatP_le (d.servers++d.members) (fun m hx=>by obtain ⟨_,_,_,h1,_⟩:=hm m hx;exact h1.np.2)
    unfold allP
    rw [List.length_append] at this
    omega
  have hge:2≤(allP d).length:=by
    have key:∀ L:List Mem,(∀ m,m∈L→1≤m.ports.length)→L.length≤(L.flatMap (·.ports)).length:=by
      intro L
      induction L with
      | nil=>intro _;simp
      | cons x L ih =>
        intro h
        have:=ih fun m hm=>h m (by simp [hm])
        have:=h x (by simp)
        rw [List.flatMap_cons,List.length_append,List.length_cons]
        omega
    have:=key (d.servers++d.members) (fun m hx=>by obtain ⟨_,_,_,h1,_⟩:=hm m hx;exact h1.np.1)
    unfold allP
    rw [List.length_append] at this
    omega
  have hpok:∀ p,p∈allP d→PrtOk p:=at_all fun i hi=>(hgood i hi).ok (by omega) (by omega)
  have hsort:(allP d).Pairwise fun a b=>a.id < b.id:=by
    rw [List.pairwise_iff_getElem]
    intro i j hi hj hij
    have h1:=(hgood i hi).id
    have h2:=(hgood j hj).id
    omega
  have hid:∀ p,p∈allP d→1≤p.id∧p.id≤999:=fun p hp=>(hpok p hp).id
  have hdis:(allP d).Pairwise fun p q=>(∀ x,x∈p.macs→x ∉ q.macs)∧(∀ a,a∈adsP p→a ∉ adsP q):=by
    rw [List.pairwise_iff_getElem]
    intro i j hi hj hij
    exact tags_ne (hgood i hi) (hgood j hj) (by omega) (by omega) (by omega)
  have hmo:∀ m,m∈d.servers++d.members→MemOk m:=fun m hx=>by
    obtain ⟨asn,name,n,h1,h2,h3⟩:=hm m hx
    have e1:=h1.asn
    have e2:=h1.name
    have e3:=h1.max4
    have e4:=h1.max6
    have e5:=h1.np
    refine ⟨?_,e2 ▸ h3,h1.set,by omega,by omega,by omega,fun p hp=>hpok p (List.mem_flatMap.2 ⟨m,hx,hp⟩)⟩
    rcases h2 with h2|⟨k,hk,h2⟩<;>omega
  have hdb:DbOk d:=⟨h.l4,h.l6,by omega,by omega,hmo⟩
  have hsn:d.servers.map (·.name)=(List.range d.servers.length).map srvN:=by
    refine List.ext_getElem (by simp) fun i h1 h2=>?_
    simp at h1 ⊢
    exact (h.srv i h1).name
  have hmn:d.members.map (·.name)=(List.range d.members.length).map mbrN:=by
    refine List.ext_getElem (by simp) fun i h1 h2=>?_
    simp at h1 ⊢
    exact (h.mbr i h1).name
  have hma:d.members.map (·.asn)=(List.range d.members.length).map fun (j:Nat)=>1 + 7 * (j:Int):=by
    refine List.ext_getElem (by simp) fun i h1 h2=>?_
    simp at h1 ⊢
    exact (h.mbr i h1).asn
  have hsa:∀ s,s∈d.servers→s.asn=65000:=fun s hs=>by
    obtain ⟨j,hj,rfl⟩:=List.getElem_of_mem hs
    exact (h.srv j hj).asn
  have hmas:∀ s,s∈d.members→s.asn≤29:=fun s hs=>by
    obtain ⟨j,hj,rfl⟩:=List.getElem_of_mem hs
    have:=(h.mbr j hj).asn
    omega
  have honce:Once d:=by
    refine ⟨by omega,by omega,fun m hx=>?_,fun m hx=>?_,fun m hx=>?_,fun p hp=>?_,fun m hx hpos=>?_,fun m hx s hs=>?_,?_,?_,?_,?_,?_⟩
    · have:=(hmo m hx).asn;omega
    · have:=(hmo m hx).name.hi;unfold maxLen;omega
    · have:=(hmo m hx).np;omega
    · have ho:=hpok p hp
      have h1:=ho.id
      have h2:=ho.nm
      obtain ⟨_,_,u3,u4⟩:=ho.cases4
      have h6:U64 p.v6.hi∧U64 p.v6.lo:=by
        rcases ho.a6 with e|⟨n,e⟩<;>rw [e]
        · exact ⟨by unfold U64;decide,by unfold U64;decide⟩
        · have:=u64_six n;exact this.2
      unfold U64 at u3 u4 h6
      exact ⟨by omega,by omega,fun m hm=>⟨(ho.macs m hm).1,fun x hx=>(ho.macs m hm).2.1 x hx⟩,by omega,by omega,by omega,by omega⟩
    · rw [hsa m hx,hsa _ (List.getElem_mem hpos)]
    · have:=hmas m hx
      rw [hsa s hs]
      omega
    · rw [hma,List.nodup_iff_pairwise_ne,List.pairwise_map]
      exact (List.nodup_range).imp fun {a b} hab=>by omega
    · rw [List.map_append,hsn,hmn]
      have:∀ a:Fin 3,∀ b:Fin 6,((List.range a.val).map srvN++(List.range b.val).map mbrN).Nodup:=by decide +kernel
      exact this ⟨d.servers.length,by omega⟩ ⟨d.members.length,by omega⟩
    · rw [List.nodup_iff_pairwise_ne,List.pairwise_map]
      exact hsort.imp fun {a b} hab=>by omega
    · refine nodup_flat (at_all fun i hi=>?_) (hdis.imp fun h=>h.1)
      have hg:=hgood i hi
      generalize (allP d)[i]=p at *
      rcases hg.macs with e|e<;>rw [e]
      · simp
      · rw [macF_small (by omega) (by omega),macF_small (by omega) (by omega)]
        simp
    · refine nodup_flat (at_all fun i hi=>?_) (hdis.imp fun h=>h.2)
      have hg:=hgood i hi
      generalize (allP d)[i]=p at *
      unfold adsP
      split<;>split<;>simp
      rcases hg.a with ⟨e,e2⟩|⟨e,e2⟩|⟨e,e2⟩<;>rw [e,e2]<;>simp [fourA,sixA]<;>omega
  refine ⟨hdb,honce,ports_all d hsort hid,⟨hge,hle⟩,hgood,fun hnil p hp=>?_⟩
  obtain ⟨m,hx,hpm⟩:=List.mem_flatMap.1 hp
  obtain ⟨_,_,_,h1,_⟩:=hm m hx
  exact h1.nil hnil p hpm
end Go.Proofs.YtcidmiacfjdepaaGreatDoor
namespace Go.Proofs.YtcidmiacfjdepaaGreatDoor
open Go.RowKit
theorem fbA_addr {a:Ad} (h6:a.v6=false) (hv:validA a.v6 a.hi a.lo=true) (h1:U64 a.hi) (h2:U64 a.lo):fbA false (addrL a)=a:=by
  unfold fbA addrL
  rw [fb_addrB hv h1 h2]
  obtain ⟨v,h,l⟩:=a
  dsimp only at h6
  subst h6
  rfl
theorem arp_back {a:Arp} (h1:a.fm.length=6) (h2:a.tm.length=6) (hop:a.op=1∨a.op=2) (hv:arpV a=true) (u1:U64 a.fr.hi∧U64 a.fr.lo) (u2:U64 a.tt.hi∧U64 a.tt.lo):arpOf (arpB a)=a∧arpE (arpB a)=0:=by
  have hv0:=hv
  unfold arpV ip4 at hv
  simp only [Bool.and_eq_true,Bool.or_eq_true,Bool.not_eq_true'] at hv
  obtain ⟨_,⟨e1,e2⟩,e3,e4⟩:=hv
  have l1:=addrL_len a.fr
  have l2:=addrL_len a.tt
  rw [e2] at l1
  rw [e4] at l2
  have f1:=fbA_addr e2 e1 u1.1 u1.2
  have f2:=fbA_addr e4 e3 u2.1 u2.2
  have hoo:bitV .or .i64 (IntKind.i64.wrap (0 * 2 ^ (min (8:Int).toNat IntKind.i64.bits))) (IntKind.u8.wrap a.op)=a.op:=by
    rcases hop with h|h<;>rw [h]<;>decide +kernel
  have key:arpOf (arpB a)=a:=by
    obtain ⟨op,fm,fr,tm,tt⟩:=a
    dsimp only at *
    obtain ⟨m0,m1,m2,m3,m4,m5,rfl⟩:=six_of h1
    obtain ⟨n0,n1,n2,n3,n4,n5,rfl⟩:=six_of h2
    unfold arpB
    dsimp only
    generalize addrL fr=L1 at *
    generalize addrL tt=L2 at *
    match L1,l1,L2,l2 with
    | [x0,x1,x2,x3],_,[y0,y1,y2,y3],_ =>
      show (⟨bitV .or .i64 (IntKind.i64.wrap (0 * 2 ^ (min (8:Int).toNat IntKind.i64.bits))) (IntKind.u8.wrap op),[m0,m1,m2,m3,m4,m5],fbA false [x0,x1,x2,x3],[n0,n1,n2,n3,n4,n5],fbA false [y0,y1,y2,y3]⟩:Arp)=_
      rw [hoo,f1,f2]
  refine ⟨key,?_⟩
  have hl:(arpB a).length=28:=arpB_len h1 h2 e2 e4
  unfold arpE
  rw [if_neg (by omega),key,hv0]
  have ht:(arpB a).take 6=[0,1,8,0,6,4]:=rfl
  rw [ht,if_pos (by unfold hdE;simp)]
theorem bound_of {ps:List Prt} {bs:List Bd} (hp:List.Perm bs (bdsOf ps)) {q:Prt} {a:Ad} (hq:q∈ps) (ha:a∈adsP q) (hu:∀ p,p∈ps→a∈adsP p→p=q):boundF bs a=some ⟨a,macOf q,q.id⟩:=by
  have hx:(⟨a,macOf q,q.id⟩:Bd)∈bs:=hp.mem_iff.2 (List.mem_flatMap.2 ⟨q,hq,List.mem_map.2 ⟨a,ha,rfl⟩⟩)
  have hall:∀ b,b∈bs→b.ad=a→b=⟨a,macOf q,q.id⟩:=fun b hb e=>by
    obtain ⟨p,h1,h2⟩:=List.mem_flatMap.1 (hp.mem_iff.1 hb)
    obtain ⟨c,h3,rfl⟩:=List.mem_map.1 h2
    dsimp only at e
    subst e
    rw [hu p h1 h3]
  clear hp
  induction bs with
  | nil=>cases hx
  | cons x l ih =>
    rw [show boundF (x::l) a=if eqA x.ad a then some x else boundF l a from rfl]
    split
    · rename_i he
      rw [hall x (by simp) (eqA_iff.1 he)]
    · rename_i he
      rcases List.mem_cons.1 hx with h|h
      · rw [← h] at he
        exact absurd (eqA_iff.2 rfl) he
      · exact ih h fun b hb=>hall b (by simp [hb])
theorem DbFine.uniq {l:List Int} {d:Db} (h:DbFine l d) {a:Ad} {p q:Prt} (hp:p∈allP d) (hq:q∈allP d) (h1:a∈adsP p) (h2:a∈adsP q):p=q:=by
  obtain ⟨i,hi,rfl⟩:=List.getElem_of_mem hp
  obtain ⟨j,hj,rfl⟩:=List.getElem_of_mem hq
  have hl:=h.len
  rcases Nat.lt_trichotomy i j with hij|hij|hij
  · exact absurd h2 ((tags_ne (h.good i hi) (h.good j hj) (by omega) (by omega) (by omega)).2 a h1)
  · subst hij;rfl
  · exact absurd h1 ((tags_ne (h.good j hj) (h.good i hi) (by omega) (by omega) (by omega)).2 a h2)
def reqF (m:List Int) (a:Arp):Fr:=⟨bcM,m,0,2054,arpB a⟩
theorem asks_req {m:List Int} {a:Arp} (h1:a.fm.length=6) (h2:a.tm.length=6) (hop:a.op=1∨a.op=2) (hv:arpV a=true) (u1:U64 a.fr.hi∧U64 a.fr.lo) (u2:U64 a.tt.hi∧U64 a.tt.lo):asksF (reqF m a)=(a.tt,true):=by
  obtain ⟨e1,e2⟩:=arp_back h1 h2 hop hv u1 u2
  unfold asksF reqF
  dsimp only
  rw [if_pos (by simp),if_pos e2,e1]
theorem v4_ok {n:Int} {p:Prt} (hg:PGood n p) (h0:1≤n) (h1:n≤14):ip4 p.v4=true∧U64 p.v4.hi∧U64 p.v4.lo:=by
  obtain ⟨e1,e2,e3,e4⟩:=(hg.ok h0 h1).cases4
  unfold ip4
  rw [e1,e2]
  exact ⟨rfl,e3,e4⟩
theorem v4_in {p:Prt} (h:p.v4≠⟨false,0,0⟩):p.v4∈adsP p∧ad1 p.v4=[p.v4]:=by
  have hz:¬ zeroA p.v4=true:=fun e=>h (eqA_iff.1 e)
  unfold adsP ad1
  rw [if_neg hz]
  simp
theorem macOf_mem {n:Int} {p:Prt} (hg:PGood n p) (h0:1≤n) (h1:n≤14):macOf p∈p.macs∧(macOf p).length=6∧IsB (macOf p):=by
  have hx:macOf p∈p.macs:=by
    unfold macOf
    rcases hg.macs with e|e<;>rw [e]<;>simp
  have:=(hg.ok h0 h1).macs _ hx
  exact ⟨hx,this.1,this.2.1⟩
theorem reqA_ok {m:List Int} {s d:Ad} (hs:ip4 s=true) (hd:ip4 d=true):arpV (reqA m s d)=true:=by
  unfold arpV reqA
  dsimp only
  rw [hs,hd]
  rfl
theorem grp_bc:grpE bcM=true:=by decide +kernel
theorem DbFine.finds {l:List Int} {d:Db} (h:DbFine l d) {rs:List Rl} {bs:List Bd} (hp:List.Perm bs (bdsOf (allP d))) {i j:Nat} (hi:i < (allP d).length) (hj:j < (allP d).length) (_e1:(allP d)[i].v4≠⟨false,0,0⟩) (e2:(allP d)[j].v4≠⟨false,0,0⟩) :
    dlvF rs bs (allP d)[i].id (reqF (macOf (allP d)[i]) (reqA (macOf (allP d)[i]) (allP d)[i].v4 (allP d)[j].v4)) =
      if (allP d)[j].id=(allP d)[i].id then (0,zFr,13) else ((allP d)[j].id,⟨macOf (allP d)[j],macOf (allP d)[i],0,2054,arpB (reqA (macOf (allP d)[i]) (allP d)[i].v4 (allP d)[j].v4)⟩,0):=by
  have hl:=h.len
  have g1:=h.good i hi
  have g2:=h.good j hj
  obtain ⟨a1,a2⟩:=v4_ok g1 (by omega) (by omega)
  obtain ⟨b1,b2⟩:=v4_ok g2 (by omega) (by omega)
  have hm:=macOf_mem g1 (by omega) (by omega)
  have hb:=bound_of hp (List.getElem_mem hj) (v4_in e2).1 (fun p hpm hpa=>h.uniq hpm (List.getElem_mem hj) hpa (v4_in e2).1)
  have ha:=asks_req (m:=macOf (allP d)[i]) (a:=reqA (macOf (allP d)[i]) (allP d)[i].v4 (allP d)[j].v4) hm.2.1 rfl (.inl rfl) (reqA_ok a1 b1) a2 b2
  generalize (allP d)[i]=p at *
  generalize (allP d)[j]=q at *
  have ht:tgtF rs bs (reqF (macOf p) (reqA (macOf p) p.v4 q.v4))=(q.id,macOf q,true):=by
    unfold tgtF
    rw [if_pos (show grpE (reqF (macOf p) (reqA (macOf p) p.v4 q.v4)).dst=true from grp_bc),ha]
    unfold boundP
    dsimp only [reqA]
    rw [hb]
    rfl
  unfold dlvF
  rw [ht]
  by_cases e:q.id=p.id
  · rw [if_pos (.inr e),if_pos e]
  · rw [if_neg (by rintro (h | h); · cases h
                   · exact e h),if_neg e]
    rfl
end Go.Proofs.YtcidmiacfjdepaaGreatDoor
