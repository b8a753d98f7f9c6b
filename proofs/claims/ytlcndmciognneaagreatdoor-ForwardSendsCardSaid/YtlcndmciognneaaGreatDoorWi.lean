/-
  The rule of a port, budgets, and what becomes of a frame; by the program and by the document. The setting of chapter 14; deliveries that are the same; whom a frame reaches is there. ForwardSends: its law.
-/
import Derived.Test.YtlcndmciognneaaGreatDoorWf
import Derived.Test.YtlcndmciognneaaGreatDoorIb
import Derived.Test.YtlcndmciognneaaGreatDoorGb
import Derived.Test.YtlcndmciognneaaGreatDoorMab
namespace Go.Proofs.YtlcndmciognneaaGreatDoor
open Go.RowKit
def zRl:Rl:=⟨0,0,0,[],[],[],0,0⟩
def ruleD (l:List Rl) (p:Int):Rl:=(ruleF l p).getD zRl
def ruleV (l:List Rl) (p:Int):AV:=.tup [.agg (ruleC (ruleD l p)),.base (.bool (ruleF l p).isSome)]
theorem ruleF_mem:∀ {l:List Rl} {p:Int} {r:Rl},ruleF l p=some r→r∈l∧r.port=p:=by
 intro l
 induction l with
 | nil=>intro p r h;cases h
 | cons x l ih =>
  intro p r h
  rw [show ruleF (x::l) p=if x.port == p then some x else ruleF l p from rfl] at h
  split at h
  ·rename_i he
   injection h with h
   subst h
   exact ⟨by simp,by simpa using he⟩
  ·obtain ⟨h1,h2⟩:=ih h
   exact ⟨by simp [h1],h2⟩
theorem copyX_any (r:Rl) (hr:RlOk r):AFn Tryz.prog 60 0 [.agg (ruleC r)] mt (.agg (ruleC r)) mt:=by
 refine AFn.eq Tryz.func60 rfl rfl (Nat.le_of_ble_eq_true rfl) ?_
 have h6:=fun m hm=>(hr.macs m hm).1
 have z1:=macsC_len h6
 have z2:=adsC_len r.v4
 have z3:=adsC_len r.v6
 have n1:=hr.nm.2
 have n2:=hr.n4
 have n3:=hr.n6
 obtain ⟨r1,r2,r3,ms,v4,v6,r7,r8⟩:=r
 clear hr
 dsimp only at h6 z1 z2 z3 n1 n2 n3
 unfold ruleC
 dsimp only
 refine Wq<|qW 0 2 rfl<|qC rfl<|qB rfl ty39<|Nl<|Wq<|Wd 6 21 (by decide) rfl mixed rfl<|qF rfl ty39 rfl<|qL rfl ty36 rfl<|Od rfl rfl (Lan rfl rfl (Ssi rfl rfl z1) ty36 ty36 ty23 (by decide) (by omega) (by omega) (by decide))<|qF rfl ty39 rfl<|qL rfl ty37 rfl<|Od rfl rfl (Lan rfl rfl (Ssi rfl rfl z2) ty37 ty37 ty54 (by decide) (by omega) (by omega) (by decide))<|qF rfl ty39 rfl<|qL rfl ty37 rfl<|Od rfl rfl (Lan rfl rfl (Ssi rfl rfl z3) ty37 ty37 ty54 (by decide) (by omega) (by omega) (by decide))<|qF rfl ty39 rfl<|qS rfl ty36 (Sl rfl) rfl<|qF rfl ty39 rfl<|qS rfl ty37 (Sl rfl) rfl<|qF rfl ty39 rfl<|qS rfl ty37 (Sl rfl) rfl<|Nl ⟨by kernel_rfl,(Wv (q:=0) (j:=3) (r:=8) rfl rfl (by decide) rfl (macs_all h6) (macsC_pure _) (Sl rfl)<|Wv (q:=0) (j:=4) (r:=11) rfl rfl (by decide) rfl (ads_all rfl) (adsC_pure _) (Sl rfl)<|Wv (q:=0) (j:=5) (r:=14) rfl rfl (by decide) rfl (ads_all rfl) (adsC_pure _) (Sl rfl)<|Wq<|qW 25 27 rfl<|qG rfl ty39 rfl (Tl rfl)<|qS rfl ty39 (Sl rfl) rfl<|Nl<|Wz ⟨.inl rfl,_,mt,(Rc (Ra0 rfl rfl ty39 rfl (Tl rfl)) Rv),aM,?_⟩)⟩
 exact ⟨rfl,rfl⟩
theorem ruleE_any (l:List Rl) (p:Int) (hl:l.length≤1000) (hr:∀ x,x∈l→RlOk x):AFn Tryz.prog 52 0 [.isl (rulesC l) l.length,.base (.int .i64 p)] mt (ruleV l p) mt:=by
 refine AFn.eq Tryz.func52 rfl rfl (Nat.le_of_ble_eq_true rfl) ?_
 unfold ruleV ruleD
 refine Wq<|qW 0 2 rfl<|qB rfl ty39<|qA rfl<|Nl<|Wq<|Wq<|qW 6 9 rfl<|qM rfl<|qH rfl ty30<|qM rfl<|Nl<|Wb<|W.loop_keep (α:=Nat) (fun x=>l.length - x) 1 (fun x=>[(4,.own 0 0),(10,.base (.int .i64 (x:Int)))]) (fun x=>up mt 0 (some ([.base (.int .i64 0),.base (.int .i64 0),.base (.int .i64 0),.nils,.nils,.nils,.base (.int .i64 0),.base (.int .i64 0)]))) (fun x=>x≤l.length∧ruleF (l.drop x) p=ruleF l p) 0 [(0,0)] (.cons (t:=1) rfl (by exact .inl rfl) (.cons (t:=8) rfl (by exact .inl rfl) (.cons (t:=9) rfl (by exact .inl rfl) .nil))) (show 0≤l.length∧ruleF (l.drop 0) p=ruleF l p from ⟨Nat.zero_le _,rfl⟩) (by decide) ?_ ?_ ?_
 ·exact lC (lI rfl) (lC (lR rfl) lN)
 ·exact aU (kR rfl) aM
 rintro i hIA ihA
 try (dsimp only at hIA)
 try dsimp only [baseT,List.cons_append,List.nil_append]
 obtain ⟨hi,hw⟩:=hIA
 by_cases hc:i < l.length
 ·have g1:decide ((i:Int) < (l.length:Int))=true:=decide_eq_true (by omega)
  have how:=owned_any _ (hr _ (List.getElem_mem hc))
  have hdr:ruleF (l.drop i) p=if l[i].port == p then some l[i] else ruleF (l.drop (i + 1)) p:=by
   rw [List.drop_eq_getElem_cons hc];rfl
  refine Wq<|qW 13 14 rfl<|qK rfl<|Nl<|Wq<|Wt rfl ‹_›<|Wu<|Wq<|Wb<|Wq<|qW 18 22 rfl<|qJ rfl rfl ty30 ty39 (by omega)<|Od rfl rfl (Lg rfl rfl ty39 rfl (rules_tk hc))<|qB rfl ty39<|qS rfl ty39 (Sl rfl) rfl<|Nl ?_
  generalize l[i]=x at *
  rw [hdr] at hw
  cases k1:(x.port == p)
  ·
   rw [k1] at hw
   refine Wq<|qW 26 30 rfl<|qF rfl ty39 rfl<|qL rfl ty3 rfl<|qM rfl<|qE rfl<|Nl<|Wo rfl ‹_›<|Wu<|qW 42 44 rfl<|qZ rfl (iW _ (by omega))<|qM rfl<|Nl<|WL.renameL [(0,0)] 1 (by decide) ?_ ?_ (ihA (i + 1) (show l.length - (i + 1) < l.length - i from by omega) (show (i + 1)≤l.length∧ruleF (l.drop (i + 1)) p=ruleF l p from ⟨by omega,hw⟩))
   ·exact lC (lI rfl) (lC (lR rfl) (lC (lR rfl) (lC (lR rfl) (lC (lR rfl) lN))))
   ·exact aU (kR rfl) aM
  ·
   rw [k1] at hw
   have e:ruleF l p=some x:=by rw [← hw];rfl
   rw [e]
   refine Wq<|qW 26 30 rfl<|qF rfl ty39 rfl<|qL rfl ty3 rfl<|qM rfl<|qE rfl<|Nl<|Wt rfl ‹_›<|Wq<|qW 34 38 rfl<|qG rfl ty39 rfl (Tl rfl)<|qY rfl (how) fok102 rfl<|qS rfl ty39 (Sl rfl) rfl<|qA rfl<|Nl<|Wz ⟨.inl rfl,_,mt,(Rc (Ra0 rfl rfl ty39 rfl (Tl rfl)) (Rc (Rt rfl) Rv)),aM,?_⟩
   exact ⟨rfl,rfl⟩
 ·have g1:decide ((i:Int) < (l.length:Int))=false:=decide_eq_false (by omega)
  obtain rfl:i=l.length:=by omega
  rw [List.drop_length] at hw
  rw [← hw]
  refine Wq<|qW 13 14 rfl<|qK rfl<|Nl<|Wq<|Wo rfl ‹_›<|Wx<|Wq<|qW 48 51 rfl<|Od rfl rfl (Bs rfl ty39 .nil)<|qS rfl ty39 (Sl rfl) rfl<|qA rfl<|Nl<|W.nilc (q:=0) (j:=3) rfl rfl (Sl rfl)<|W.nilc (q:=0) (j:=4) rfl rfl (Sl rfl)<|W.nilc (q:=0) (j:=5) rfl rfl (Sl rfl)<|Wz ⟨.inl rfl,_,mt,(Rc (Ra0 rfl rfl ty39 rfl (Tl rfl)) (Rc (Rt rfl) Rv)),aM,?_⟩
  exact ⟨rfl,rfl⟩
theorem ruleX_any (l:List Rl) (p:Int) (hl:l.length≤1000) (hr:∀ x,x∈l→RlOk x):AFn Tryz.prog 24 0 [.isl (rulesC l) l.length,.base (.int .i64 p)] mt (ruleV l p) mt:=by
 refine AFn.eq Tryz.func24 rfl rfl (Nat.le_of_ble_eq_true rfl) ?_
 unfold ruleV ruleD
 refine Wq<|qW 0 2 rfl<|qB rfl ty39<|qA rfl<|Nl<|Wq<|Wq<|qW 6 9 rfl<|qM rfl<|qH rfl ty30<|qM rfl<|Nl<|Wb<|W.loop_keep (α:=Nat) (fun x=>l.length - x) 1 (fun x=>[(4,.own 0 0),(10,.base (.int .i64 (x:Int)))]) (fun x=>up mt 0 (some ([.base (.int .i64 0),.base (.int .i64 0),.base (.int .i64 0),.nils,.nils,.nils,.base (.int .i64 0),.base (.int .i64 0)]))) (fun x=>x≤l.length∧ruleF (l.drop x) p=ruleF l p) 0 [(0,0)] (.cons (t:=1) rfl (by exact .inl rfl) (.cons (t:=8) rfl (by exact .inl rfl) (.cons (t:=9) rfl (by exact .inl rfl) .nil))) (show 0≤l.length∧ruleF (l.drop 0) p=ruleF l p from ⟨Nat.zero_le _,rfl⟩) (by decide) ?_ ?_ ?_
 ·exact lC (lI rfl) (lC (lR rfl) lN)
 ·exact aU (kR rfl) aM
 rintro i hIA ihA
 try (dsimp only at hIA)
 try dsimp only [baseT,List.cons_append,List.nil_append]
 obtain ⟨hi,hw⟩:=hIA
 by_cases hc:i < l.length
 ·have g1:decide ((i:Int) < (l.length:Int))=true:=decide_eq_true (by omega)
  have how:=copyX_any _ (hr _ (List.getElem_mem hc))
  have hdr:ruleF (l.drop i) p=if l[i].port == p then some l[i] else ruleF (l.drop (i + 1)) p:=by
   rw [List.drop_eq_getElem_cons hc];rfl
  refine Wq<|qW 13 14 rfl<|qK rfl<|Nl<|Wq<|Wt rfl ‹_›<|Wu<|Wq<|Wb<|Wq<|qW 18 22 rfl<|qJ rfl rfl ty30 ty39 (by omega)<|Od rfl rfl (Lg rfl rfl ty39 rfl (rules_tk hc))<|qB rfl ty39<|qS rfl ty39 (Sl rfl) rfl<|Nl ?_
  generalize l[i]=x at *
  rw [hdr] at hw
  cases k1:(x.port == p)
  ·
   rw [k1] at hw
   refine Wq<|qW 26 30 rfl<|qF rfl ty39 rfl<|qL rfl ty3 rfl<|qM rfl<|qE rfl<|Nl<|Wo rfl ‹_›<|Wu<|qW 42 44 rfl<|qZ rfl (iW _ (by omega))<|qM rfl<|Nl<|WL.renameL [(0,0)] 1 (by decide) ?_ ?_ (ihA (i + 1) (show l.length - (i + 1) < l.length - i from by omega) (show (i + 1)≤l.length∧ruleF (l.drop (i + 1)) p=ruleF l p from ⟨by omega,hw⟩))
   ·exact lC (lI rfl) (lC (lR rfl) (lC (lR rfl) (lC (lR rfl) (lC (lR rfl) lN))))
   ·exact aU (kR rfl) aM
  ·
   rw [k1] at hw
   have e:ruleF l p=some x:=by rw [← hw];rfl
   rw [e]
   refine Wq<|qW 26 30 rfl<|qF rfl ty39 rfl<|qL rfl ty3 rfl<|qM rfl<|qE rfl<|Nl<|Wt rfl ‹_›<|Wq<|qW 34 38 rfl<|qG rfl ty39 rfl (Tl rfl)<|qY rfl (how) fok60 rfl<|qS rfl ty39 (Sl rfl) rfl<|qA rfl<|Nl<|Wz ⟨.inl rfl,_,mt,(Rc (Ra0 rfl rfl ty39 rfl (Tl rfl)) (Rc (Rt rfl) Rv)),aM,?_⟩
   exact ⟨rfl,rfl⟩
 ·have g1:decide ((i:Int) < (l.length:Int))=false:=decide_eq_false (by omega)
  obtain rfl:i=l.length:=by omega
  rw [List.drop_length] at hw
  rw [← hw]
  refine Wq<|qW 13 14 rfl<|qK rfl<|Nl<|Wq<|Wo rfl ‹_›<|Wx<|Wq<|qW 48 51 rfl<|Od rfl rfl (Bs rfl ty39 .nil)<|qS rfl ty39 (Sl rfl) rfl<|qA rfl<|Nl<|W.nilc (q:=0) (j:=3) rfl rfl (Sl rfl)<|W.nilc (q:=0) (j:=4) rfl rfl (Sl rfl)<|W.nilc (q:=0) (j:=5) rfl rfl (Sl rfl)<|Wz ⟨.inl rfl,_,mt,(Rc (Ra0 rfl rfl ty39 rfl (Tl rfl)) (Rc (Rt rfl) Rv)),aM,?_⟩
  exact ⟨rfl,rfl⟩
structure Bk where
 lv:Int
 rate:Int
 burst:Int
def bkC (b:Bk):List AV:=[.base (.int .i64 b.lv),.base (.int .i64 b.rate),.base (.int .i64 b.burst)]
def BkOk (b:Bk):Prop:=(0≤b.lv∧b.lv≤1000000)∧(0≤b.rate∧b.rate≤1000000)∧0≤b.burst∧b.burst≤1000000
theorem takeE_any (b:Bk) (hb:BkOk b):AFn Tryz.prog 53 0 [.agg (bkC b)] mt (.tup [.agg (bkC (if decide (b.lv≤0) then b else ⟨b.lv - 1,b.rate,b.burst⟩)),.base (.bool (!decide (b.lv≤0)))]) mt:=by
 refine AFn.eq Tryz.func53 rfl rfl (Nat.le_of_ble_eq_true rfl) ?_
 obtain ⟨lv,rate,burst⟩:=b
 obtain ⟨h1,h2,h3⟩:=hb
 dsimp only at h1 h2 h3 ⊢
 refine Wq<|qW 0 3 rfl<|qC rfl<|qB rfl ty46<|qA rfl<|Nl ?_
 cases k1:decide (lv≤0)
 ·
  have hwr:IntKind.i64.wrap (lv - 1)=lv - 1:=IntWalk.i64_in _ (by omega)
  refine Wq<|Wq<|qW 7 10 rfl<|qF rfl ty46 rfl<|qL rfl ty3 rfl<|qLe rfl<|Nl<|Wo rfl ‹_›<|Wu<|Wq<|qW 21 26 rfl<|qF rfl ty46 rfl<|qL rfl ty3 rfl<|Od rfl rfl (LO.sub_in rfl rfl rfl hwr)<|qF rfl ty46 rfl<|qS rfl ty3 (Sl rfl) rfl<|Nl<|Wq<|qW 30 33 rfl<|qG rfl ty46 rfl (Tl rfl)<|qS rfl ty46 (Sl rfl) rfl<|qA rfl<|Nl<|Wz ⟨.inl rfl,_,mt,(Rc (Ra0 rfl rfl ty46 rfl (Tl rfl)) (Rc (Rt rfl) Rv)),aM,?_⟩
  exact ⟨rfl,rfl⟩
 ·
  refine Wq<|Wq<|qW 7 10 rfl<|qF rfl ty46 rfl<|qL rfl ty3 rfl<|qLe rfl<|Nl<|Wt rfl ‹_›<|Wq<|qW 14 17 rfl<|qG rfl ty46 rfl (Tl rfl)<|qS rfl ty46 (Sl rfl) rfl<|qA rfl<|Nl<|Wz ⟨.inl rfl,_,mt,(Rc (Ra0 rfl rfl ty46 rfl (Tl rfl)) (Rc (Rt rfl) Rv)),aM,?_⟩
  exact ⟨rfl,rfl⟩
theorem takeX_any (b:Bk) (hb:BkOk b):AFn Tryz.prog 55 0 [.agg (bkC b)] mt (.tup [.agg (bkC (if decide (b.lv≤0) then b else ⟨b.lv - 1,b.rate,b.burst⟩)),.base (.bool (!decide (b.lv≤0)))]) mt:=by
 refine AFn.eq Tryz.func55 rfl rfl (Nat.le_of_ble_eq_true rfl) ?_
 obtain ⟨lv,rate,burst⟩:=b
 obtain ⟨h1,h2,h3⟩:=hb
 dsimp only at h1 h2 h3 ⊢
 refine Wq<|qW 0 3 rfl<|qC rfl<|qB rfl ty46<|qA rfl<|Nl ?_
 cases k1:decide (lv≤0)
 ·
  have hwr:IntKind.i64.wrap (lv - 1)=lv - 1:=IntWalk.i64_in _ (by omega)
  refine Wq<|Wq<|qW 7 10 rfl<|qF rfl ty46 rfl<|qL rfl ty3 rfl<|qLe rfl<|Nl<|Wo rfl ‹_›<|Wu<|Wq<|qW 21 26 rfl<|qF rfl ty46 rfl<|qL rfl ty3 rfl<|Od rfl rfl (LO.sub_in rfl rfl rfl hwr)<|qF rfl ty46 rfl<|qS rfl ty3 (Sl rfl) rfl<|Nl<|Wq<|qW 30 33 rfl<|qG rfl ty46 rfl (Tl rfl)<|qS rfl ty46 (Sl rfl) rfl<|qA rfl<|Nl<|Wz ⟨.inl rfl,_,mt,(Rc (Ra0 rfl rfl ty46 rfl (Tl rfl)) (Rc (Rt rfl) Rv)),aM,?_⟩
  exact ⟨rfl,rfl⟩
 ·
  refine Wq<|Wq<|qW 7 10 rfl<|qF rfl ty46 rfl<|qL rfl ty3 rfl<|qLe rfl<|Nl<|Wt rfl ‹_›<|Wq<|qW 14 17 rfl<|qG rfl ty46 rfl (Tl rfl)<|qS rfl ty46 (Sl rfl) rfl<|qA rfl<|Nl<|Wz ⟨.inl rfl,_,mt,(Rc (Ra0 rfl rfl ty46 rfl (Tl rfl)) (Rc (Rt rfl) Rv)),aM,?_⟩
  exact ⟨rfl,rfl⟩
structure Dl where
 port:Int
 links:List Int
 fr:Fr
def dlC (d:Dl):List AV:=[.base (.int .i64 d.port),.isl (intsC d.links) d.links.length]++frC d.fr
def zDl:Dl:=⟨0,[],zFr⟩
def fwdB (r0 v0:Bool) (v:Int) (gr l0:Bool) (bk:Bk) (d0:Bool) (d:Int × Fr × Int) (w:Option (List Int)):Dl × Bk × Int :=
 if !r0 then (zDl,bk,1) else if v0 then (zDl,bk,v) else if gr && l0 then (zDl,bk,12)
 else if d0 then (zDl,if gr then ⟨bk.lv - 1,bk.rate,bk.burst⟩ else bk,d.2.2)
 else match w with
  | none=>(zDl,if gr then ⟨bk.lv - 1,bk.rate,bk.burst⟩ else bk,14)
  | some l=>(⟨d.1,l,d.2.1⟩,if gr then ⟨bk.lv - 1,bk.rate,bk.burst⟩ else bk,0)
def fwdW (rs:List Rl) (bs:List Bd) (f:Fab) (p:Int) (x:Fr):Option (List Int):=wayF f (ruleD rs p).sw (ruleD rs (dlvF rs bs p x).1).sw (hashF (x.src++(dlvF rs bs p x).2.1.dst))
def fwdF (rs:List Rl) (bs:List Bd) (f:Fab) (bk:Bk) (p:Int) (x:Fr):Dl × Bk × Int :=
 fwdB (ruleF rs p).isSome (chqV (ruleD rs p) x != 0) (chqV (ruleD rs p) x) (grpE x.dst) (decide (bk.lv≤0)) bk ((dlvF rs bs p x).2.2 != 0) (dlvF rs bs p x) (fwdW rs bs f p x)
def fwdV (s:Dl × Bk × Int):AV:=.tup [.agg (dlC s.1),.agg (bkC s.2.1),.base (.int .i64 s.2.2)]
def Full (rs:List Rl) (bs:List Bd) (p:Int) (x:Fr):Prop:=(dlvF rs bs p x).2.2=0→(∃ r,ruleF rs (dlvF rs bs p x).1=some r)∧IsB (dlvF rs bs p x).2.1.dst
theorem dlvF_okX {rs:List Rl} {bs:List Bd} {fm:Int} {f:Fr} (ht:TablesOk rs bs) (hf:FrX f):FrOk (dlvF rs bs fm f).2.1:=by
 unfold dlvF
 split
 ·exact ⟨rfl,rfl,fun x hx=>by simp [zFr] at hx,by simp [zFr]⟩
 ·exact ⟨tgtF_len ht hf.ok,hf.ok.s6,hf.ok.bB,hf.ok.bl⟩
set_option maxHeartbeats 8000000 in
theorem sendE_any (rs:List Rl) (bs:List Bd) (f:Fab) (bk:Bk) (p:Int) (x:Fr) (hrs:rs.length≤1000) (hro:∀ r,r∈rs→RlOk r) (ht:TablesOk rs bs) (hf:FabS f) (he:EndsIn f) (hb:BkOk bk) (hx:FrX x) (hfull:Full rs bs p x) :
 AFn Tryz.prog 18 0 [.isl (rulesC rs) rs.length,.isl (bdsC bs) bs.length,.agg (preC lan4),.agg (preC lan6),.agg (fabC f),.agg (bkC bk),.base (.int .i64 p),.agg (frC x)] mt (fwdV (fwdF rs bs f bk p x)) mt:=by
 refine AFn.eq Tryz.func18 rfl rfl (Nat.le_of_ble_eq_true rfl) ?_
 have hru:=ruleE_any rs p hrs hro
 have hg:=grE_any x hx
 have htk:=takeE_any bk hb
 have hdl:=deliver_any rs bs p x ht hx.ok
 have hru2:=ruleE_any rs (dlvF rs bs p x).1 hrs hro
 have hok:=dlvF_okX (fm:=p) ht hx
 have hck:=fun r hr=>fchE_any r (RlOk.g (hro r hr)) x hx
 have hmem:=fun r=>@ruleF_mem rs p r
 have hwy:=fun a b h=>way_any f hf he a b h
 have hsB:=hx.sB
 unfold Full at hfull
 unfold fwdF fwdW
 unfold ruleV at hru hru2
 unfold ruleD at hru hru2 ⊢
 unfold dlvV at hdl
 generalize dlvF rs bs p x=d at *
 obtain ⟨dp,⟨dd,ds,dv,dt,dx⟩,dw⟩:=d
 dsimp only at hdl hru2 hok hfull ⊢
 have o6:=hok.d6
 have u6:=hok.s6
 dsimp only at o6 u6
 clear hok
 obtain ⟨e0,e1,e2,e3,e4,e5,rfl⟩:=six_of o6
 obtain ⟨f0,f1,f2,f3,f4,f5,rfl⟩:=six_of u6
 generalize ruleF rs p=R1 at *
 generalize ruleF rs dp=R2 at *
 generalize grpE x.dst=gr at *
 obtain ⟨l0,hl0⟩:∃ b,decide (bk.lv≤0)=b:=⟨_,rfl⟩
 rw [hl0] at htk ⊢
 obtain ⟨d0,hd0⟩:∃ b,(dw != 0)=b:=⟨_,rfl⟩
 rw [hd0]
 obtain ⟨lv,rate,burst⟩:=bk
 dsimp only at htk hl0
 obtain ⟨fd,fs,fv,ft,fx⟩:=x
 have p6:=hx.ok.d6
 have q6:=hx.ok.s6
 clear hx hb
 dsimp only at p6 q6 hg hsB ⊢
 obtain ⟨p0,p1,p2,p3,p4,p5,rfl⟩:=six_of p6
 obtain ⟨q0,q1,q2,q3,q4,q5,rfl⟩:=six_of q6
 refine Wq<|qW 0 8 rfl<|qC rfl<|qC rfl<|qC rfl<|qC rfl<|qC rfl<|qB rfl ty49<|qB rfl ty46<|qA rfl<|Nl<|Wq<|qW 12 15 rfl<|Od rfl rfl (Bs rfl ty49 .nil)<|qB rfl ty49<|qS rfl ty49 (Sl rfl) rfl<|Nl<|W.nilc (q:=13) (j:=1) rfl rfl (Sl rfl)<|W.nilc (q:=13) (j:=16) rfl rfl (Sl rfl) ?_
 cases R1 with
 | none =>
  refine Wq<|qW 19 28 rfl<|qM rfl<|qM rfl<|qY rfl (hru) fok52 rfl<|qM rfl<|qX rfl<|qX rfl<|qB rfl ty39<|qS rfl ty39 (Sl rfl) rfl<|qA rfl<|Nl<|Wq<|Wq<|qW 32 34 rfl<|qM rfl<|qO rfl<|Nl<|Wt rfl rfl<|Wq<|Wd 38 43 (by decide) rfl mixed rfl<|qG rfl ty49 rfl (Tl rfl)<|qG rfl ty46 rfl (Tl rfl)<|qS rfl ty49 (Sl rfl) rfl<|qS rfl ty46 (Sl rfl) rfl<|qA rfl<|Nl ⟨by kernel_rfl,(Wz ⟨.inl rfl,_,mt,(Rc (Ra0 rfl rfl ty49 rfl (Tl rfl)) (Rc (Ra0 rfl rfl ty46 rfl (Tl rfl)) (Rc (Rt rfl) Rv))),aM,?_⟩)⟩
  exact ⟨rfl,rfl⟩
 | some r =>
  have hchk:=hck r (hmem r rfl).1
  clear hck hmem
  dsimp only [Option.getD_some,Option.isSome_some] at hru ⊢
  generalize chqV r ⟨[p0,p1,p2,p3,p4,p5],[q0,q1,q2,q3,q4,q5],fv,ft,fx⟩=v at *
  obtain ⟨v0,hv0⟩:∃ b,(v != 0)=b:=⟨_,rfl⟩
  rw [hv0]
  obtain ⟨r1,r2,sw,r4,r5,r6,r7,r8⟩:=r
  dsimp only at hchk ⊢
  refine Wq<|qW 19 28 rfl<|qM rfl<|qM rfl<|qY rfl (hru) fok52 rfl<|qM rfl<|qX rfl<|qX rfl<|qB rfl ty39<|qS rfl ty39 (Sl rfl) rfl<|qA rfl<|Nl<|Wq<|Wq<|qW 32 34 rfl<|qM rfl<|qO rfl<|Nl<|Wo rfl rfl<|Wu<|Wq<|Wq<|qW 47 53 rfl<|qG rfl ty39 rfl (Tl rfl)<|qG rfl ty56 rfl (Tl rfl)<|qG rfl ty56 rfl (Tl rfl)<|qG rfl ty26 rfl (Tl rfl)<|qY rfl (hchk) fok26 rfl<|qA rfl<|Nl ?_
  cases v0
  case' true =>
   refine Wq<|qW 57 59 rfl<|qM rfl<|qN rfl<|Nl<|Wt rfl ‹_›<|Wq<|Wd 63 69 (by decide) rfl mixed rfl<|qG rfl ty49 rfl (Tl rfl)<|qG rfl ty46 rfl (Tl rfl)<|qM rfl<|qS rfl ty49 (Sl rfl) rfl<|qS rfl ty46 (Sl rfl) rfl<|qA rfl<|Nl ⟨by kernel_rfl,(Wz ⟨.inl rfl,_,mt,(Rc (Ra0 rfl rfl ty49 rfl (Tl rfl)) (Rc (Ra0 rfl rfl ty46 rfl (Tl rfl)) (Rc (Rt rfl) Rv))),aM,?_⟩)⟩
   exact ⟨rfl,rfl⟩
  case' false =>
   refine Wq<|qW 57 59 rfl<|qM rfl<|qN rfl<|Nl<|Wo rfl ‹_›<|Wu ?_
   cases gr
   case' false =>
    refine Wq<|Wq<|qW 73 75 rfl<|qG rfl ty26 rfl (Tl rfl)<|qY rfl (hg) fok34 rfl<|Nl<|Wo rfl rfl<|Wu ?_
    generalize hlv:lv=lw
   case' true =>
    cases l0
    case' true =>
     refine Wq<|Wq<|qW 73 75 rfl<|qG rfl ty26 rfl (Tl rfl)<|qY rfl (hg) fok34 rfl<|Nl<|Wt rfl rfl<|Wq<|qW 79 86 rfl<|qG rfl ty46 rfl (Tl rfl)<|qY rfl (htk) fok53 rfl<|qM rfl<|qX rfl<|qX rfl<|qS rfl ty46 (Sl rfl) rfl<|qA rfl<|Nl<|Wq<|qW 90 92 rfl<|qM rfl<|qO rfl<|Nl<|Wt rfl rfl<|Wq<|Wd 96 101 (by decide) rfl mixed rfl<|qG rfl ty49 rfl (Tl rfl)<|qG rfl ty46 rfl (Tl rfl)<|qS rfl ty49 (Sl rfl) rfl<|qS rfl ty46 (Sl rfl) rfl<|qA rfl<|Nl ⟨by kernel_rfl,(Wz ⟨.inl rfl,_,mt,(Rc (Ra0 rfl rfl ty49 rfl (Tl rfl)) (Rc (Ra0 rfl rfl ty46 rfl (Tl rfl)) (Rc (Rt rfl) Rv))),aM,?_⟩)⟩
     exact ⟨rfl,rfl⟩
    case' false =>
     refine Wq<|Wq<|qW 73 75 rfl<|qG rfl ty26 rfl (Tl rfl)<|qY rfl (hg) fok34 rfl<|Nl<|Wt rfl rfl<|Wq<|qW 79 86 rfl<|qG rfl ty46 rfl (Tl rfl)<|qY rfl (htk) fok53 rfl<|qM rfl<|qX rfl<|qX rfl<|qS rfl ty46 (Sl rfl) rfl<|qA rfl<|Nl<|Wq<|qW 90 92 rfl<|qM rfl<|qO rfl<|Nl<|Wo rfl rfl<|Wu ?_
     dsimp only
     generalize hlv:lv - 1=lw
   all_goals
    repeat (refine Wq ?_)
    refine qW 105 118 rfl<|qM rfl<|qM rfl<|qM rfl<|qG rfl ty26 rfl (Tl rfl)<|qY rfl (hdl) fok54 rfl<|qM rfl<|qX rfl<|qX rfl<|qX rfl<|qB rfl ty26<|qA rfl<|qS rfl ty26 (Sl rfl) rfl<|qA rfl<|Nl ?_
    cases d0
    ·
     have hw0:dw=0:=by simpa using hd0
     obtain ⟨⟨r',e'⟩,hdB⟩:=hfull hw0
     subst e'
     obtain ⟨x1,x2,sw2,x4,x5,x6,x7,x8⟩:=r'
     dsimp only [Option.getD_some,Option.isSome_some] at hru2 ⊢
     have hha:=hash_any [q0,q1,q2,q3,q4,q5] [e0,e1,e2,e3,e4,e5] rfl rfl hsB hdB
     have hway:=hwy sw sw2 (hashF ([q0,q1,q2,q3,q4,q5]++[e0,e1,e2,e3,e4,e5]))
     unfold wayV at hway
     generalize wayF f sw sw2 (hashF ([q0,q1,q2,q3,q4,q5]++[e0,e1,e2,e3,e4,e5]))=w at *
     repeat (refine Wq ?_)
     refine qW 122 124 rfl<|qM rfl<|qN rfl<|Nl<|Wo rfl ‹_›<|Wu ?_
     repeat (refine Wq ?_)
     refine qW 138 147 rfl<|qM rfl<|qM rfl<|qY rfl (hru2) fok52 rfl<|qM rfl<|qX rfl<|qX rfl<|qB rfl ty39<|qS rfl ty39 (Sl rfl) rfl<|qA rfl<|Nl ?_
     cases w with
     | none =>
      dsimp only [Option.getD_none,Option.isSome_none] at hway
      repeat (refine Wq ?_)
      refine Wd 151 167 (by decide) rfl mixed rfl<|qG rfl ty35 rfl (Tl rfl)<|qF rfl ty39 rfl<|qL rfl ty3 rfl<|qF rfl ty39 rfl<|qL rfl ty3 rfl<|qF rfl ty26 rfl<|qG rfl ty23 rfl (Tl rfl)<|qF rfl ty26 rfl<|qG rfl ty23 rfl (Tl rfl)<|qY rfl (hha) fok45 rfl<|qY rfl (hway) fok44 rfl<|qM rfl<|qX rfl<|qX rfl<|qA rfl<|qA rfl<|Nl ⟨by kernel_rfl,?_⟩
      repeat (refine Wq ?_)
      refine qW 171 177 rfl<|qM rfl<|qO rfl<|qM rfl<|gM rfl rfl<|gO rfl rfl<|qP rfl rfl rfl<|Nl<|Wt rfl rfl ?_
      repeat (refine Wq ?_)
      refine Wd 181 186 (by decide) rfl mixed rfl<|qG rfl ty49 rfl (Tl rfl)<|qG rfl ty46 rfl (Tl rfl)<|qS rfl ty49 (Sl rfl) rfl<|qS rfl ty46 (Sl rfl) rfl<|qA rfl<|Nl ⟨by kernel_rfl,(Wz ⟨.inl rfl,_,mt,(Rc (Ra0 rfl rfl ty49 rfl (Tl rfl)) (Rc (Ra0 rfl rfl ty46 rfl (Tl rfl)) (Rc (Rt rfl) Rv))),aM,?_⟩)⟩
      exact ⟨by rw [← hlv];rfl,rfl⟩
     | some lk =>
      dsimp only [Option.getD_some,Option.isSome_some] at hway
      repeat (refine Wq ?_)
      refine Wd 151 167 (by decide) rfl mixed rfl<|qG rfl ty35 rfl (Tl rfl)<|qF rfl ty39 rfl<|qL rfl ty3 rfl<|qF rfl ty39 rfl<|qL rfl ty3 rfl<|qF rfl ty26 rfl<|qG rfl ty23 rfl (Tl rfl)<|qF rfl ty26 rfl<|qG rfl ty23 rfl (Tl rfl)<|qY rfl (hha) fok45 rfl<|qY rfl (hway) fok44 rfl<|qM rfl<|qX rfl<|qX rfl<|qA rfl<|qA rfl<|Nl ⟨by kernel_rfl,?_⟩
      repeat (refine Wq ?_)
      refine qW 171 177 rfl<|qM rfl<|qO rfl<|qM rfl<|gM rfl rfl<|gO rfl rfl<|qP rfl rfl rfl<|Nl<|Wo rfl rfl<|Wu ?_
      repeat (refine Wq ?_)
      refine Wd 190 198 (by decide) rfl mixed rfl<|qM rfl<|qM rfl<|qG rfl ty26 rfl (Tl rfl)<|Od rfl rfl (Bs rfl ty49 (.cons rfl rfl rfl rfl (Sl rfl) (.cons rfl rfl rfl rfl (Sl rfl) (.cons rfl rfl rfl rfl (Sl rfl) .nil))))<|qG rfl ty46 rfl (Tl rfl)<|qS rfl ty49 (Sl rfl) rfl<|qS rfl ty46 (Sl rfl) rfl<|qA rfl<|Nl ⟨by kernel_rfl,(Wz ⟨.inl rfl,_,mt,(Rc (Ra0 rfl rfl ty49 rfl (Tl rfl)) (Rc (Ra0 rfl rfl ty46 rfl (Tl rfl)) (Rc (Rt rfl) Rv))),aM,?_⟩)⟩
      exact ⟨by rw [← hlv];rfl,rfl⟩
    ·
     repeat (refine Wq ?_)
     refine qW 122 124 rfl<|qM rfl<|qN rfl<|Nl<|Wt rfl ‹_› ?_
     repeat (refine Wq ?_)
     refine Wd 128 134 (by decide) rfl mixed rfl<|qG rfl ty49 rfl (Tl rfl)<|qG rfl ty46 rfl (Tl rfl)<|qM rfl<|qS rfl ty49 (Sl rfl) rfl<|qS rfl ty46 (Sl rfl) rfl<|qA rfl<|Nl ⟨by kernel_rfl,(Wz ⟨.inl rfl,_,mt,(Rc (Ra0 rfl rfl ty49 rfl (Tl rfl)) (Rc (Ra0 rfl rfl ty46 rfl (Tl rfl)) (Rc (Rt rfl) Rv))),aM,?_⟩)⟩
     exact ⟨by rw [← hlv];rfl,rfl⟩
set_option maxHeartbeats 8000000 in
theorem sendX_any (rs:List Rl) (bs:List Bd) (f:Fab) (bk:Bk) (p:Int) (x:Fr) (hrs:rs.length≤1000) (hro:∀ r,r∈rs→RlOk r) (ht:TablesOk rs bs) (hf:FabS f) (he:EndsIn f) (hb:BkOk bk) (hx:FrX x) (hfull:Full rs bs p x) :
 AFn Tryz.prog 21 0 [.isl (rulesC rs) rs.length,.isl (bdsC bs) bs.length,.agg (preC lan4),.agg (preC lan6),.agg (fabC f),.agg (bkC bk),.base (.int .i64 p),.agg (frC x)] mt (fwdV (fwdF rs bs f bk p x)) mt:=by
 refine AFn.eq Tryz.func21 rfl rfl (Nat.le_of_ble_eq_true rfl) ?_
 have hru:=ruleX_any rs p hrs hro
 have hg:=grX_any x hx
 have htk:=takeX_any bk hb
 have hdl:=deliverX_any rs bs p x ht hx
 have hru2:=ruleX_any rs (dlvF rs bs p x).1 hrs hro
 have hok:=dlvF_okX (fm:=p) ht hx
 have hck:=fun r hr=>fchX_any r (RlOk.g (hro r hr)) x hx
 have hmem:=fun r=>@ruleF_mem rs p r
 have hwy:=fun a b h=>wayX_any f hf he a b h
 have hsB:=hx.sB
 unfold Full at hfull
 unfold fwdF fwdW
 unfold ruleV at hru hru2
 unfold ruleD at hru hru2 ⊢
 unfold dlvV at hdl
 generalize dlvF rs bs p x=d at *
 obtain ⟨dp,⟨dd,ds,dv,dt,dx⟩,dw⟩:=d
 dsimp only at hdl hru2 hok hfull ⊢
 have o6:=hok.d6
 have u6:=hok.s6
 dsimp only at o6 u6
 clear hok
 obtain ⟨e0,e1,e2,e3,e4,e5,rfl⟩:=six_of o6
 obtain ⟨f0,f1,f2,f3,f4,f5,rfl⟩:=six_of u6
 generalize ruleF rs p=R1 at *
 generalize ruleF rs dp=R2 at *
 generalize grpE x.dst=gr at *
 obtain ⟨l0,hl0⟩:∃ b,decide (bk.lv≤0)=b:=⟨_,rfl⟩
 rw [hl0] at htk ⊢
 obtain ⟨d0,hd0⟩:∃ b,(dw != 0)=b:=⟨_,rfl⟩
 rw [hd0]
 obtain ⟨lv,rate,burst⟩:=bk
 dsimp only at htk hl0
 obtain ⟨fd,fs,fv,ft,fx⟩:=x
 have p6:=hx.ok.d6
 have q6:=hx.ok.s6
 clear hx hb
 dsimp only at p6 q6 hg hsB ⊢
 obtain ⟨p0,p1,p2,p3,p4,p5,rfl⟩:=six_of p6
 obtain ⟨q0,q1,q2,q3,q4,q5,rfl⟩:=six_of q6
 refine Wq<|qW 0 8 rfl<|qC rfl<|qC rfl<|qC rfl<|qC rfl<|qC rfl<|qB rfl ty49<|qB rfl ty46<|qA rfl<|Nl ?_
 cases R1 with
 | none =>
  refine Wq<|qW 12 21 rfl<|qM rfl<|qM rfl<|qY rfl (hru) fok24 rfl<|qM rfl<|qX rfl<|qX rfl<|qB rfl ty39<|qS rfl ty39 (Sl rfl) rfl<|qA rfl<|Nl<|Wq<|Wq<|qW 25 27 rfl<|qM rfl<|qO rfl<|Nl<|Wt rfl rfl<|Wq<|Wd 31 36 (by decide) rfl mixed rfl<|Od rfl rfl (Bs rfl ty49 .nil)<|qG rfl ty46 rfl (Tl rfl)<|qS rfl ty49 (Sl rfl) rfl<|qS rfl ty46 (Sl rfl) rfl<|qA rfl<|Nl ⟨by kernel_rfl,(W.nilc (q:=5) (j:=1) rfl rfl (Sl rfl)<|W.nilc (q:=5) (j:=16) rfl rfl (Sl rfl)<|Wz ⟨.inl rfl,_,mt,(Rc (Ra0 rfl rfl ty49 rfl (Tl rfl)) (Rc (Ra0 rfl rfl ty46 rfl (Tl rfl)) (Rc (Rt rfl) Rv))),aM,?_⟩)⟩
  exact ⟨rfl,rfl⟩
 | some r =>
  have hchk:=hck r (hmem r rfl).1
  clear hck hmem
  dsimp only [Option.getD_some,Option.isSome_some] at hru ⊢
  generalize chqV r ⟨[p0,p1,p2,p3,p4,p5],[q0,q1,q2,q3,q4,q5],fv,ft,fx⟩=v at *
  obtain ⟨v0,hv0⟩:∃ b,(v != 0)=b:=⟨_,rfl⟩
  rw [hv0]
  obtain ⟨r1,r2,sw,r4,r5,r6,r7,r8⟩:=r
  dsimp only at hchk ⊢
  refine Wq<|qW 12 21 rfl<|qM rfl<|qM rfl<|qY rfl (hru) fok24 rfl<|qM rfl<|qX rfl<|qX rfl<|qB rfl ty39<|qS rfl ty39 (Sl rfl) rfl<|qA rfl<|Nl<|Wq<|Wq<|qW 25 27 rfl<|qM rfl<|qO rfl<|Nl<|Wo rfl rfl<|Wu<|Wq<|Wq<|qW 40 46 rfl<|qG rfl ty39 rfl (Tl rfl)<|qG rfl ty56 rfl (Tl rfl)<|qG rfl ty56 rfl (Tl rfl)<|qG rfl ty26 rfl (Tl rfl)<|qY rfl (hchk) fok33 rfl<|qA rfl<|Nl ?_
  cases v0
  case' true =>
   refine Wq<|qW 50 52 rfl<|qM rfl<|qN rfl<|Nl<|Wt rfl ‹_›<|Wq<|Wd 56 62 (by decide) rfl mixed rfl<|Od rfl rfl (Bs rfl ty49 .nil)<|qG rfl ty46 rfl (Tl rfl)<|qM rfl<|qS rfl ty49 (Sl rfl) rfl<|qS rfl ty46 (Sl rfl) rfl<|qA rfl<|Nl ⟨by kernel_rfl,(W.nilc (q:=5) (j:=1) rfl rfl (Sl rfl)<|W.nilc (q:=5) (j:=16) rfl rfl (Sl rfl)<|Wz ⟨.inl rfl,_,mt,(Rc (Ra0 rfl rfl ty49 rfl (Tl rfl)) (Rc (Ra0 rfl rfl ty46 rfl (Tl rfl)) (Rc (Rt rfl) Rv))),aM,?_⟩)⟩
   exact ⟨rfl,rfl⟩
  case' false =>
   refine Wq<|qW 50 52 rfl<|qM rfl<|qN rfl<|Nl<|Wo rfl ‹_›<|Wu ?_
   cases gr
   case' false =>
    refine Wq<|Wq<|qW 66 68 rfl<|qG rfl ty26 rfl (Tl rfl)<|qY rfl (hg) fok35 rfl<|Nl<|Wo rfl rfl<|Wu ?_
    generalize hlv:lv=lw
   case' true =>
    cases l0
    case' true =>
     refine Wq<|Wq<|qW 66 68 rfl<|qG rfl ty26 rfl (Tl rfl)<|qY rfl (hg) fok35 rfl<|Nl<|Wt rfl rfl<|Wq<|qW 72 79 rfl<|qG rfl ty46 rfl (Tl rfl)<|qY rfl (htk) fok55 rfl<|qM rfl<|qX rfl<|qX rfl<|qS rfl ty46 (Sl rfl) rfl<|qA rfl<|Nl<|Wq<|qW 83 85 rfl<|qM rfl<|qO rfl<|Nl<|Wt rfl rfl<|Wq<|Wd 89 94 (by decide) rfl mixed rfl<|Od rfl rfl (Bs rfl ty49 .nil)<|qG rfl ty46 rfl (Tl rfl)<|qS rfl ty49 (Sl rfl) rfl<|qS rfl ty46 (Sl rfl) rfl<|qA rfl<|Nl ⟨by kernel_rfl,(W.nilc (q:=5) (j:=1) rfl rfl (Sl rfl)<|W.nilc (q:=5) (j:=16) rfl rfl (Sl rfl)<|Wz ⟨.inl rfl,_,mt,(Rc (Ra0 rfl rfl ty49 rfl (Tl rfl)) (Rc (Ra0 rfl rfl ty46 rfl (Tl rfl)) (Rc (Rt rfl) Rv))),aM,?_⟩)⟩
     exact ⟨rfl,rfl⟩
    case' false =>
     refine Wq<|Wq<|qW 66 68 rfl<|qG rfl ty26 rfl (Tl rfl)<|qY rfl (hg) fok35 rfl<|Nl<|Wt rfl rfl<|Wq<|qW 72 79 rfl<|qG rfl ty46 rfl (Tl rfl)<|qY rfl (htk) fok55 rfl<|qM rfl<|qX rfl<|qX rfl<|qS rfl ty46 (Sl rfl) rfl<|qA rfl<|Nl<|Wq<|qW 83 85 rfl<|qM rfl<|qO rfl<|Nl<|Wo rfl rfl<|Wu ?_
     dsimp only
     generalize hlv:lv - 1=lw
   all_goals
    repeat (refine Wq ?_)
    refine qW 98 111 rfl<|qM rfl<|qM rfl<|qM rfl<|qG rfl ty26 rfl (Tl rfl)<|qY rfl (hdl) fok56 rfl<|qM rfl<|qX rfl<|qX rfl<|qX rfl<|qB rfl ty26<|qA rfl<|qS rfl ty26 (Sl rfl) rfl<|qA rfl<|Nl ?_
    cases d0
    ·
     have hw0:dw=0:=by simpa using hd0
     obtain ⟨⟨r',e'⟩,hdB⟩:=hfull hw0
     subst e'
     obtain ⟨x1,x2,sw2,x4,x5,x6,x7,x8⟩:=r'
     dsimp only [Option.getD_some,Option.isSome_some] at hru2 ⊢
     have hha:=hashX_any [q0,q1,q2,q3,q4,q5] [e0,e1,e2,e3,e4,e5] rfl rfl hsB hdB
     have hway:=hwy sw sw2 (hashF ([q0,q1,q2,q3,q4,q5]++[e0,e1,e2,e3,e4,e5]))
     unfold wayV at hway
     generalize wayF f sw sw2 (hashF ([q0,q1,q2,q3,q4,q5]++[e0,e1,e2,e3,e4,e5]))=w at *
     repeat (refine Wq ?_)
     refine qW 115 117 rfl<|qM rfl<|qN rfl<|Nl<|Wo rfl ‹_›<|Wu ?_
     repeat (refine Wq ?_)
     refine qW 131 140 rfl<|qM rfl<|qM rfl<|qY rfl (hru2) fok24 rfl<|qM rfl<|qX rfl<|qX rfl<|qB rfl ty39<|qS rfl ty39 (Sl rfl) rfl<|qA rfl<|Nl ?_
     cases w with
     | none =>
      dsimp only [Option.getD_none,Option.isSome_none] at hway
      repeat (refine Wq ?_)
      refine Wd 144 160 (by decide) rfl mixed rfl<|qG rfl ty35 rfl (Tl rfl)<|qF rfl ty39 rfl<|qL rfl ty3 rfl<|qF rfl ty39 rfl<|qL rfl ty3 rfl<|qF rfl ty26 rfl<|qG rfl ty23 rfl (Tl rfl)<|qF rfl ty26 rfl<|qG rfl ty23 rfl (Tl rfl)<|qY rfl (hha) fok58 rfl<|qY rfl (hway) fok57 rfl<|qM rfl<|qX rfl<|qX rfl<|qA rfl<|qA rfl<|Nl ⟨by kernel_rfl,?_⟩
      repeat (refine Wq ?_)
      refine qW 164 166 rfl<|qM rfl<|qO rfl<|Nl<|Wt rfl rfl ?_
      repeat (refine Wq ?_)
      refine Wd 170 175 (by decide) rfl mixed rfl<|Od rfl rfl (Bs rfl ty49 .nil)<|qG rfl ty46 rfl (Tl rfl)<|qS rfl ty49 (Sl rfl) rfl<|qS rfl ty46 (Sl rfl) rfl<|qA rfl<|Nl ⟨by kernel_rfl,(W.nilc (q:=5) (j:=1) rfl rfl (Sl rfl)<|W.nilc (q:=5) (j:=16) rfl rfl (Sl rfl)<|Wz ⟨.inl rfl,_,mt,(Rc (Ra0 rfl rfl ty49 rfl (Tl rfl)) (Rc (Ra0 rfl rfl ty46 rfl (Tl rfl)) (Rc (Rt rfl) Rv))),aM,?_⟩)⟩
      exact ⟨by rw [← hlv];rfl,rfl⟩
     | some lk =>
      dsimp only [Option.getD_some,Option.isSome_some] at hway
      repeat (refine Wq ?_)
      refine Wd 144 160 (by decide) rfl mixed rfl<|qG rfl ty35 rfl (Tl rfl)<|qF rfl ty39 rfl<|qL rfl ty3 rfl<|qF rfl ty39 rfl<|qL rfl ty3 rfl<|qF rfl ty26 rfl<|qG rfl ty23 rfl (Tl rfl)<|qF rfl ty26 rfl<|qG rfl ty23 rfl (Tl rfl)<|qY rfl (hha) fok58 rfl<|qY rfl (hway) fok57 rfl<|qM rfl<|qX rfl<|qX rfl<|qA rfl<|qA rfl<|Nl ⟨by kernel_rfl,?_⟩
      repeat (refine Wq ?_)
      refine qW 164 166 rfl<|qM rfl<|qO rfl<|Nl<|Wo rfl rfl<|Wu ?_
      repeat (refine Wq ?_)
      refine Wd 179 187 (by decide) rfl mixed rfl<|qM rfl<|qM rfl<|qG rfl ty26 rfl (Tl rfl)<|Od rfl rfl (Bs rfl ty49 (.cons rfl rfl rfl rfl (Sl rfl) (.cons rfl rfl rfl rfl (Sl rfl) (.cons rfl rfl rfl rfl (Sl rfl) .nil))))<|qG rfl ty46 rfl (Tl rfl)<|qS rfl ty49 (Sl rfl) rfl<|qS rfl ty46 (Sl rfl) rfl<|qA rfl<|Nl ⟨by kernel_rfl,(Wz ⟨.inl rfl,_,mt,(Rc (Ra0 rfl rfl ty49 rfl (Tl rfl)) (Rc (Ra0 rfl rfl ty46 rfl (Tl rfl)) (Rc (Rt rfl) Rv))),aM,?_⟩)⟩
      exact ⟨by rw [← hlv];rfl,rfl⟩
    ·
     repeat (refine Wq ?_)
     refine qW 115 117 rfl<|qM rfl<|qN rfl<|Nl<|Wt rfl ‹_› ?_
     repeat (refine Wq ?_)
     refine Wd 121 127 (by decide) rfl mixed rfl<|Od rfl rfl (Bs rfl ty49 .nil)<|qG rfl ty46 rfl (Tl rfl)<|qM rfl<|qS rfl ty49 (Sl rfl) rfl<|qS rfl ty46 (Sl rfl) rfl<|qA rfl<|Nl ⟨by kernel_rfl,(W.nilc (q:=5) (j:=1) rfl rfl (Sl rfl)<|W.nilc (q:=5) (j:=16) rfl rfl (Sl rfl)<|Wz ⟨.inl rfl,_,mt,(Rc (Ra0 rfl rfl ty49 rfl (Tl rfl)) (Rc (Ra0 rfl rfl ty46 rfl (Tl rfl)) (Rc (Rt rfl) Rv))),aM,?_⟩)⟩
     exact ⟨by rw [← hlv];rfl,rfl⟩
theorem DbFine.full {l:List Int} {d:Db} (h:DbFine l d) {g:Int→Int} {bs:List Bd} (hp:List.Perm bs (bdsOf (allP d))) (p:Int) (x:Fr):Full ((allP d).map (ruleOf g 2 3)) bs p x:=by
 intro h0
 unfold dlvF at h0 ⊢
 split at h0
 ·cases h0
 ·rename_i hc
  rw [if_neg hc]
  have hok:(tgtF ((allP d).map (ruleOf g 2 3)) bs x).2.2=true:=by
   cases ho:(tgtF ((allP d).map (ruleOf g 2 3)) bs x).2.2
   ·exact absurd (.inl ho) hc
   ·rfl
  obtain ⟨q,hq,e1,e2,_⟩:=h.reach hp hok
  have hl:=h.len
  refine ⟨⟨ruleOf g 2 3 q,?_⟩,?_⟩
  ·dsimp only
   rw [e1]
   exact rule_first hq fun y hy e=>h.ids hq hy e
  ·dsimp only
   obtain ⟨i,hi,rfl⟩:=List.getElem_of_mem hq
   have hpo:=(h.good i hi).ok (by omega) (by omega)
   exact (hpo.macs _ e2).2.1
set_option maxHeartbeats 4000000 in
theorem setting14_any (l:List Int) (at_:Nat) (hl:l.length≤9223372036854775807) :
 ∃ v H',AFn Tryz.prog 15 1 [.own 0 0] (up mt 0 (some (deckC l at_))) v H' ∧
  ∃ (ld:List Int) (d:Db) (g:Int→Int) (bs:List Bd) (j:Nat) (f:Fr) (fb:Fab) (at':Nat) (hj:j < (allP d).length),(DbFine ld d∧List.Perm bs (bdsOf (allP d))∧MacOk bs∧FrY f∧FabOK fb) ∧
   v=.tup [.isl (rulesC ((allP d).map (ruleOf g 2 3))) ((allP d).map (ruleOf g 2 3)).length,.isl (bdsC bs) bs.length,.agg (fabC fb),.agg (ruleC (ruleOf g 2 3 (allP d)[j])),.agg (frC f)]∧H'=up mt 0 (some (deckC l at')):=by
 refine AFn.ex Tryz.func15 rfl rfl (Nat.le_of_ble_eq_true rfl) ?_
 obtain ⟨vd,Hd,hdb,d,a1,hmade,rfl,rfl⟩:=database_any l at_ hl
 have hfine:=hmade.fine
 have hlen:=hfine.len
 obtain ⟨g,hru⟩:=rules_any d hfine.ok hfine.once hfine.ports (by omega) 2 3 (by decide)
 obtain ⟨_,_,hfab,fb,a2,⟨hfok,_⟩,rfl,rfl⟩:=fabric_any l a1 4 (by decide) (by decide) hl
 obtain ⟨vb,Hb,hbi,bs,⟨hperm,hmo⟩,rfl,rfl⟩:=bindings_any d hfine.ok hfine.ports (by omega) (fun p hp=>by
  obtain ⟨i,hi,rfl⟩:=List.getElem_of_mem hp
  exact (hfine.good i hi).ok (by omega) (by omega))
 have hrl:((allP d).map (ruleOf g 2 3)).length=(allP d).length:=List.length_map _
 obtain ⟨j,hj,hjb⟩:=nat_of (nextV_bd l a2 (((allP d).map (ruleOf g 2 3)).length:Int) (by omega))
 have n4:=next_any l a2 (((allP d).map (ruleOf g 2 3)).length:Int) (by omega) (by omega) hl
 rw [hj] at n4
 have hj2:j < (allP d).length:=by omega
 have tJ:=rules_tk (l:=(allP d).map (ruleOf g 2 3)) (k:=j) (by omega)
 rw [List.getElem_map] at tJ
 have hrok:=hfine.rok g 2 3
 have hone:RlOk (ruleOf g 2 3 (allP d)[j]):=hrok _ (List.mem_map.2 ⟨_,List.getElem_mem hj2,rfl⟩)
 obtain ⟨_,_,hfr,f,a3,hfx,rfl,rfl⟩:=frame_any l (nextAt l a2) (ruleOf g 2 3 (allP d)[j]) ((allP d).map (ruleOf g 2 3)) hone hrok (by omega) (by omega) hl
 have p6:=hfx.ok.d6
 have q6:=hfx.ok.s6
 have hex : ∃ (ld : List Int) (dd : Db) (gg : Int → Int) (bb : List Bd) (i : Nat) (ff : Fr) (fbb : Fab) (aa : Nat) (hi : i < (allP dd).length), (DbFine ld dd ∧ List.Perm bb (bdsOf (allP dd)) ∧ MacOk bb ∧ FrY ff ∧ FabOK fbb) ∧
       AV.tup [.isl (rulesC ((allP d).map (ruleOf g 2 3))) ((allP d).map (ruleOf g 2 3)).length,.isl (bdsC bs) bs.length,.agg (fabC fb),.agg (ruleC (ruleOf g 2 3 (allP d)[j])),.agg (frC f)]=.tup [.isl (rulesC ((allP dd).map (ruleOf gg 2 3))) ((allP dd).map (ruleOf gg 2 3)).length,.isl (bdsC bb) bb.length,.agg (fabC fbb),.agg (ruleC (ruleOf gg 2 3 (allP dd)[i])),.agg (frC ff)]∧(up mt 0 (some (deckC l a3)):Hp)=up mt 0 (some (deckC l aa)) :=
  ⟨_,d,g,bs,j,f,fb,a3,hj2,⟨hfine,hperm,hmo,hfx,hfok⟩,rfl,rfl⟩
 obtain ⟨fd,fs,fv,ft,fx⟩:=f
 dsimp only at p6 q6
 obtain ⟨p0,p1,p2,p3,p4,p5,rfl⟩:=six_of p6
 obtain ⟨q0,q1,q2,q3,q4,q5,rfl⟩:=six_of q6
 generalize (allP d)[j]=P at *
 generalize hgr:(allP d).map (ruleOf g 2 3)=rs at *
 have hj3:j < rs.length:=by omega
 obtain ⟨sw,lks,dns,dds⟩:=fb
 clear hfine hmade hrok hone hj hfok
 refine Wq<|qW 1 6 rfl<|qA rfl<|qA rfl<|qB rfl ty35<|qB rfl ty39<|qB rfl ty26<|Nl<|Wq<|qW 10 14 rfl<|qM rfl<|Od rfl rfl (C1 (fr:=[]) rfl rfl (hdb) fok46 (.own rfl rfl .nil) rfl rfl rfl (Cn _ _) (by decide) rfl)<|qB rfl ty105<|qS rfl ty105 (Sl rfl) rfl<|Nl<|Wq<|qW 18 25 rfl<|qG rfl ty105 rfl (Tl rfl)<|qY rfl (hru) fok47 rfl<|qM rfl<|qX rfl<|qX rfl<|qA rfl<|qA rfl<|Nl<|Wq<|qW 29 33 rfl<|qM rfl<|Od rfl rfl (C1 (fr:=[]) rfl rfl (hfab) fok48 (.own rfl rfl (.cons rfl (.pure rfl) .nil)) rfl rfl rfl (Cn _ _) (by decide) rfl)<|qB rfl ty35<|qS rfl ty35 (Sl rfl) rfl<|Nl<|Wq<|qW 37 46 rfl<|qM rfl<|qM rfl<|qM rfl<|qH rfl ty30<|Od rfl rfl (C1 (fr:=[]) rfl rfl (n4) fok49 (.own rfl rfl (.cons rfl (.pure rfl) .nil)) rfl rfl rfl (Cn _ _) (by decide) rfl)<|qJ rfl rfl ty30 ty39 (by omega)<|Od rfl rfl (Lg rfl rfl ty39 rfl tJ)<|qB rfl ty39<|qS rfl ty39 (Sl rfl) rfl<|Nl<|Wq<|Wd 50 64 (by decide) rfl mixed rfl<|qM rfl<|qG rfl ty105 rfl (Tl rfl)<|qY rfl (hbi) fok50 rfl<|qG rfl ty35 rfl (Tl rfl)<|qG rfl ty39 rfl (Tl rfl)<|qM rfl<|qG rfl ty39 rfl (Tl rfl)<|qM rfl<|Od rfl rfl (C1 (fr:=[]) rfl rfl (hfr) fok51 (.own rfl rfl (.cons rfl (.pure rfl) (.cons rfl (.pure rfl) .nil))) rfl rfl rfl (Cn _ _) (by decide) rfl)<|qA rfl<|qA rfl<|qS rfl ty35 (Sl rfl) rfl<|qS rfl ty39 (Sl rfl) rfl<|qS rfl ty26 (Sl rfl) rfl<|Nl ⟨by kernel_rfl,(Wz ⟨.inl rfl,_,up mt 0 (some (deckC l a3)),(Rc (Rt rfl) (Rc (Rt rfl) (Rc (Ra0 rfl rfl ty35 rfl (Tl rfl)) (Rc (Ra0 rfl rfl ty39 rfl (Tl rfl)) (Rc (Ra0 rfl rfl ty26 rfl (Tl rfl)) Rv))))),(aU rfl aM),?_⟩)⟩
 exact hex
theorem sameD_refl (d:Dl) (hd:FrOk d.fr) (hl:d.links.length≤1000):AFn Tryz.prog 22 0 [.agg (dlC d),.agg (dlC d)] mt (.base (.bool true)) mt:=by
 refine AFn.eq Tryz.func22 rfl rfl (Nat.le_of_ble_eq_true rfl) ?_
 have hs:=same_refl d.fr hd
 obtain ⟨port,lk,fr⟩:=d
 have p6:=hd.d6
 have q6:=hd.s6
 obtain ⟨fd,fs,fv,ft,fx⟩:=fr
 dsimp only at p6 q6 hs hl
 obtain ⟨p0,p1,p2,p3,p4,p5,rfl⟩:=six_of p6
 obtain ⟨q0,q1,q2,q3,q4,q5,rfl⟩:=six_of q6
 have n1:(port != port)=false:=by simp
 have n2:((lk.length:Int) != (lk.length:Int))=false:=by simp
 clear hd
 refine Wq<|qW 0 3 rfl<|qC rfl<|qC rfl<|qA rfl<|Nl<|Wq<|Wq<|qW 7 29 rfl<|qF rfl ty49 rfl<|qL rfl ty3 rfl<|qF rfl ty49 rfl<|qL rfl ty3 rfl<|qN rfl<|qM rfl<|gF rfl ‹_› ty49 rfl<|gL rfl ‹_› ty27 rfl<|gH rfl ‹_› ty27<|gF rfl ‹_› ty49 rfl<|gL rfl ‹_› ty27 rfl<|gH rfl ‹_› ty27<|gN rfl ‹_›<|qP rfl ‹_› rfl<|qM rfl<|gF rfl ‹_› ty49 rfl<|gG rfl ‹_› ty26 rfl (Tl rfl)<|gF rfl ‹_› ty49 rfl<|gG rfl ‹_› ty26 rfl (Tl rfl)<|gY rfl ‹_› (hs) fok59 rfl<|gO rfl ‹_›<|qP rfl ‹_› rfl<|Nl<|Wo rfl rfl<|Wu<|Wq<|Wq<|qW 38 42 rfl<|qF rfl ty49 rfl<|qL rfl ty27 rfl<|qH rfl ty27<|qM rfl<|Nl<|Wb<|W.loop_keep (α:=Nat) (fun x=>lk.length - x) 1 (fun x=>[(3,.own 0 0),(32,.base (.int .i64 (x:Int)))]) (fun x=>up mt 0 (some (dlC ⟨port,lk,⟨[p0,p1,p2,p3,p4,p5],[q0,q1,q2,q3,q4,q5],fv,ft,fx⟩⟩))) (fun x=>x≤lk.length) 0 [(0,1)] (.cons (t:=30) rfl (by exact .inl rfl) (.cons (t:=31) rfl (by exact .inl rfl) .nil)) (show 0≤lk.length from Nat.zero_le _) (by decide) ?_ ?_ ?_
 ·exact lC (lI rfl) (lC (lR rfl) lN)
 ·exact aU (kR rfl) aM
 rintro i hIA ihA
 try (dsimp only at hIA)
 try dsimp only [baseT,List.cons_append,List.nil_append]
 by_cases hc:i < lk.length
 ·have g1:decide ((i:Int) < (lk.length:Int))=true:=decide_eq_true (by omega)
  have ha:(intsC lk)[i * 1]?=some (.base (.int .i64 lk[i])):=by simp [intsC,hc]
  have n3:(lk[i] != lk[i])=false:=by simp
  refine Wq<|qW 46 47 rfl<|qK rfl<|Nl<|Wq<|Wt rfl ‹_›<|Wu<|Wq<|Wb<|Wq<|qW 51 56 rfl<|qM rfl<|qJ rfl rfl ty27 ty3 (by omega)<|Od rfl rfl (Li rfl rfl ha ty3 rfl)<|qA rfl<|qA rfl<|Nl<|Wq<|qW 60 67 rfl<|qF rfl ty49 rfl<|qL rfl ty27 rfl<|qM rfl<|qJ rfl rfl ty27 ty3 (by omega)<|Od rfl rfl (Li rfl rfl ha ty3 rfl)<|qM rfl<|qN rfl<|Nl<|Wo rfl ‹_›<|Wu<|qW 76 78 rfl<|qZ rfl (iW _ (by omega))<|qM rfl<|Nl<|WL.renameL [(0,0)] 1 (by decide) ?_ ?_ (ihA (i + 1) (show lk.length - (i + 1) < lk.length - i from by omega) (show (i + 1)≤lk.length from by omega))
  ·exact lC (lI rfl) (lC (lR rfl) (lC (lR rfl) (lC (lR rfl) lN)))
  ·exact aU (kR rfl) aM
 ·have g1:decide ((i:Int) < (lk.length:Int))=false:=decide_eq_false (by omega)
  refine Wq<|qW 46 47 rfl<|qK rfl<|Nl<|Wq<|Wo rfl ‹_›<|Wx<|Wq<|qW 82 83 rfl<|qA rfl<|Nl<|Wz ⟨.inl rfl,_,mt,Rc (Rt rfl) (Rv),aM,?_⟩
  exact ⟨rfl,rfl⟩
def bkVs (b:Bk):List Value:=[.int .i64 b.lv,.int .i64 b.rate,.int .i64 b.burst]
theorem eqBk_in (d:Nat) (a:Bk) (w:World):(Op.equalIn (d + 2) 46 (.agg #[.int .i64 a.lv,.int .i64 a.rate,.int .i64 a.burst]) (.agg #[.int .i64 a.lv,.int .i64 a.rate,.int .i64 a.burst])).run Tryz.prog w=.ok true w:=by
 rw [run_equalIn_struct w (d + 1) 46 _ _ (by kernel_rfl) (by kernel_rfl)]
 have hu:=Tryz.underlying46
 have hi:=Tryz.underlying3
 simp [Program.fieldsOf,hu,Op.eqFields,part,isAgg,run_underlying hi,run_equalIn_int _ _ _ _ _ _ _ hi]
theorem LO.neBk {o:Oper} {E:Operand→Option AV} {H:Hp} {f:Nat} {ty:TypeId} {x y:Operand} (a:Bk) (ho:o.op=.binOp .neq 46 x y ty) (hx:E x=some (.agg (bkC a))) (hy:E y=some (.agg (bkC a))):LO Tryz.prog o E H f [] [] (.base (.bool false)) H :=
 LO.eqBases (r:=true) true (bkVs a) (bkVs a) ho hx hy rfl rfl (guardRun x y true (by kernel_rfl)) (eqBk_in 9998 a)
theorem wayF_len1 {f:Fab} {a b h:Int} {w:List Int} (hf:FabS f) (hw:wayF f a b h=some w):w.length≤1000:=by
 have:=wayF_len hf a b h
 rw [hw] at this
 exact Nat.le_trans this (by decide)
theorem zFr_ok:FrOk zFr:=⟨rfl,rfl,fun x hx=>by simp [zFr] at hx,by simp [zFr]⟩
theorem fwdF_ok {rs:List Rl} {bs:List Bd} {f:Fab} {bk:Bk} {p:Int} {x:Fr} (ht:TablesOk rs bs) (hf:FabS f) (hx:FrX x):FrOk (fwdF rs bs f bk p x).1.fr∧(fwdF rs bs f bk p x).1.links.length≤1000:=by
 have h1:FrOk (dlvF rs bs p x).2.1:=dlvF_okX ht hx
 have h2:=fun w=>@wayF_len1 f (ruleD rs p).sw (ruleD rs (dlvF rs bs p x).1).sw (hashF (x.src++(dlvF rs bs p x).2.1.dst)) w hf
 unfold fwdF fwdB fwdW
 have hz:FrOk zDl.fr∧zDl.links.length≤1000:=⟨zFr_ok,by simp [zDl]⟩
 split
 ·exact hz
 ·split
  ·exact hz
  ·split
   ·exact hz
   ·split
    ·exact hz
    ·split
     ·exact hz
     ·rename_i w hw
      exact ⟨h1,h2 w hw⟩
theorem shortS_any (l:List Int):AFn Tryz.prog 13 0 [.isl (bytesC l) l.length] mt (.base (.bool (decide ((l.length:Int)≤600)))) mt:=by
 refine AFn.eq Tryz.func13 rfl rfl (Nat.le_of_ble_eq_true rfl)<|Wq<|qW 0 1 rfl<|qA rfl<|Nl<|Wq<|qW 5 9 rfl<|qM rfl<|qH rfl ty24<|qLe rfl<|qA rfl<|Nl<|Wz ⟨.inl rfl,_,mt,Rc (Rt rfl) (Rv),aM,?_⟩
 exact ⟨rfl,rfl⟩
theorem tk3_0 {a b c:List AV} {n:Nat} (h:a.length=n):Tk (a++b++c) (0 * n) n a:=by
 refine ⟨h,fun j x hj=>?_⟩
 have hl:=(List.getElem?_eq_some_iff.1 hj).1
 rw [Nat.zero_mul,Nat.zero_add,List.append_assoc,List.getElem?_append_left hl]
 exact hj
theorem tk3_1 {a b c:List AV} {n:Nat} (h:a.length=n) (h2:b.length=n):Tk (a++b++c) (1 * n) n b:=by
 refine ⟨h2,fun j x hj=>?_⟩
 have hl:=(List.getElem?_eq_some_iff.1 hj).1
 rw [Nat.one_mul,List.append_assoc,List.getElem?_append_right (by omega),List.getElem?_append_left (by omega),h,Nat.add_sub_cancel_left]
 exact hj
set_option maxHeartbeats 8000000 in
theorem sends_law (raw:Fr) (l:List Int) (port level:Int) (hr:raw.dst.length=6∧raw.src.length=6∧IsB raw.dst∧IsB raw.src∧IsB raw.data) (hl:l.length≤9223372036854775807):AFn Tryz.prog 3 0 [.agg (frC raw),.isl (l.map fun z=>.base (.int .i64 z)) l.length,.base (.int .i64 port),.base (.int .i64 level)] mt (.base (.bool true)) mt:=by
 refine AFn.eq Tryz.func3 rfl rfl (Nat.le_of_ble_eq_true rfl) ?_
 have hawk:=awake14_any
 have hsh:=shortS_any raw.data
 by_cases hrl:raw.data.length≤600
 case' neg =>
  have e1:decide ((raw.data.length:Int)≤600)=false:=decide_eq_false (by omega)
  rw [e1] at hsh
  obtain ⟨rd,rs,rv,rt,rx⟩:=raw
  obtain ⟨h1,h2,_⟩:=hr
  dsimp only at h1 h2 hsh
  obtain ⟨p0,p1,p2,p3,p4,p5,rfl⟩:=six_of h1
  obtain ⟨q0,q1,q2,q3,q4,q5,rfl⟩:=six_of h2
  refine Wq<|qW 0 2 rfl<|qC rfl<|qA rfl<|Nl<|Wq<|Wq<|qW 6 10 rfl<|qF rfl ty26 rfl<|qL rfl ty24 rfl<|qY rfl (hsh) fok13 rfl<|qO rfl<|Nl<|Wt rfl rfl<|Wq<|qW 14 16 rfl<|qY rfl (hawk) fok14 rfl<|qA rfl<|Nl<|Wz ⟨.inl rfl,_,mt,Rc (Rt rfl) (Rv),aM,?_⟩
  exact ⟨rfl,rfl⟩
 case' pos =>
  have e1:decide ((raw.data.length:Int)≤600)=true:=decide_eq_true (by omega)
  rw [e1] at hsh
  have hrx:FrX raw:=⟨⟨hr.1,hr.2.1,hr.2.2.2.2,by omega⟩,hr.2.2.1,hr.2.2.2.1⟩
  have hnew:=new_any l
  obtain ⟨_,_,hset,ld,d,g,bs,j,f,fb,a1,hj,⟨hfine,hperm,hmo,hfy,hfok⟩,rfl,rfl⟩:=setting14_any l 0 hl
  have htab:=hfine.tables g 2 3 hperm hmo
  have hful:=fun p x=>hfine.full (g:=g) hperm p x
  have hlen:=hfine.len
  have hrok:=hfine.rok g 2 3
  have hrn:((allP d).map (ruleOf g 2 3)).length≤1000:=by rw [List.length_map];omega
  have hfx:=hfy.x
  have hfs:FabS fb:=FabOK.s hfok.sw7 hfok.nlinks hfok.dead
  have hfe:=hfok.ends
  have hm1:=mod_any level 4 (by decide) (by decide)
  have hbk:BkOk ⟨level % 4,2,3⟩:=⟨by dsimp only;omega,by dsimp only;decide,by dsimp only;decide⟩
  have hm2:=mod_any port 50 (by decide) (by decide)
  have hse:=fun p x hx=>sendE_any ((allP d).map (ruleOf g 2 3)) bs fb ⟨level % 4,2,3⟩ p x hrn hrok htab hfs hfe hbk hx (hful p x)
  have hsx:=fun p x hx=>sendX_any ((allP d).map (ruleOf g 2 3)) bs fb ⟨level % 4,2,3⟩ p x hrn hrok htab hfs hfe hbk hx (hful p x)
  have hok:=fun p x hx=>fwdF_ok (bk:=⟨level % 4,2,3⟩) (p:=p) (x:=x) htab hfs hx
  generalize (allP d)[j]=P at *
  generalize (allP d).map (ruleOf g 2 3)=rs at *
  generalize hff:fwdF rs bs fb ⟨level % 4,2,3⟩=ff at *
  clear hff hfine hperm hmo hfy hj hful hrok hrn htab hfs hfe hfok hbk
  generalize level % 4=lv at *
  generalize port % 50=p50 at *
  obtain ⟨fsw,flk,fdn,fdd⟩:=fb
  have hall:∀ i:Nat,i < 2→FrX ([raw,f].getD i raw):=fun i hi=>by
   match i,hi with
   | 0,_=>exact hrx
   | 1,_=>exact hfx
  have htk:∀ i:Nat,i < 2→Tk (frC raw++frC f++[]) (i * 15) 15 (frC ([raw,f].getD i raw)):=fun i hi=>by
   have e1:(frC raw).length=15:=frC_len hrx.ok.d6 hrx.ok.s6
   have e2:(frC f).length=15:=frC_len hfx.ok.d6 hfx.ok.s6
   match i,hi with
   | 0,_=>exact tk3_0 e1
   | 1,_=>exact tk3_1 e1 e2
  obtain ⟨rd,rss,rv,rt,rx⟩:=raw
  obtain ⟨h1,h2,_⟩:=hr
  obtain ⟨fd,fs,fv,ft,fx⟩:=f
  have h3:=hfx.ok.d6
  have h4:=hfx.ok.s6
  dsimp only at h1 h2 h3 h4 hsh
  obtain ⟨p0,p1,p2,p3,p4,p5,rfl⟩:=six_of h1
  obtain ⟨q0,q1,q2,q3,q4,q5,rfl⟩:=six_of h2
  obtain ⟨d0,d1,d2,d3,d4,d5,rfl⟩:=six_of h3
  obtain ⟨s0,s1,s2,s3,s4,s5,rfl⟩:=six_of h4
  refine Wq<|qW 0 2 rfl<|qC rfl<|qA rfl<|Nl<|Wq<|Wq<|qW 6 10 rfl<|qF rfl ty26 rfl<|qL rfl ty24 rfl<|qY rfl (hsh) fok13 rfl<|qO rfl<|Nl<|Wo rfl rfl<|Wu<|Wq<|qW 20 37 rfl<|qM rfl<|Od rfl rfl (CN (fr:=[]) rfl rfl (hnew) fok16 (.cons rfl (.pure rfl) .nil) rfl (by decide))<|Od rfl rfl (C1 (fr:=[]) rfl rfl (hset) fok15 (.own rfl rfl .nil) rfl rfl rfl (Cn _ _) (by decide) rfl)<|qM rfl<|qX rfl<|qX rfl<|qX rfl<|qX rfl<|qX rfl<|qB rfl ty35<|qB rfl ty39<|qB rfl ty26<|qA rfl<|qA rfl<|qS rfl ty35 (Sl rfl) rfl<|qS rfl ty39 (Sl rfl) rfl<|qS rfl ty26 (Sl rfl) rfl<|Nl ?_
  unfold ruleOf
  refine Wq<|qW 41 46 rfl<|qM rfl<|qY rfl (hm1) fok17 rfl<|Od rfl rfl (Bs rfl ty46 (.cons rfl rfl rfl rfl (Sl rfl) (.cons rfl rfl rfl rfl (Sl rfl) (.cons rfl rfl rfl rfl (Sl rfl) .nil))))<|qB rfl ty46<|qS rfl ty46 (Sl rfl) rfl<|Nl<|Wq<|Wq<|qW 50 55 rfl<|qG rfl ty26 rfl (Tl rfl)<|qG rfl ty26 rfl (Tl rfl)<|Od rfl rfl (LO.buildSlice rfl ty47 ty26 (by decide) (by decide) (.cons rfl rfl rfl rfl (Sl rfl) (.cons rfl rfl rfl rfl (Sl rfl) .nil)))<|Od rfl rfl (LO.len rfl rfl ty47)<|qM rfl<|Nl<|Wy (t:=44) rfl rfl (Tl rfl) rfl<|Wb<|W.loop_keep (α:=Nat) (fun x=>2 - x) 3 (fun x=>[(11,.own 0 0),(12,.own 1 0),(14,.own 2 0),(46,.base (.int .i64 (x:Int)))]) (fun x=>up (up (up mt 0 (some (fabC ⟨fsw,flk,fdn,fdd⟩))) 1 (some ([.base (.int .i64 P.id),.base (.int .i64 (g P.id)),.base (.int .i64 P.sw),.isl (macsC P.macs) P.macs.length,.isl (adsC (ad1 P.v4)) (ad1 P.v4).length,.isl (adsC (ad1 P.v6)) (ad1 P.v6).length,.base (.int .i64 2),.base (.int .i64 3)]))) 2 (some (bkC ⟨lv,2,3⟩))) (fun x=>x≤2) 0 [(0,29),(1,30),(2,44)] (.cons (t:=2) rfl (by exact .inl rfl) (.cons (t:=9) rfl (by exact .inl rfl) (.cons (t:=10) rfl (by exact .inl rfl) (.cons (t:=44) rfl (by exact .inl rfl) (.cons (t:=45) rfl (by exact .inl rfl) .nil))))) (show 0≤2 from Nat.zero_le _) (by decide) ?_ ?_ ?_
  ·exact lC (lI rfl) (lC (lI rfl) (lC (lI rfl) (lC (lR rfl) lN)))
  ·exact aU (kR rfl) (aU (kR rfl) (aU (kR rfl) aM))
  rintro i hIA ihA
  try (dsimp only at hIA)
  try dsimp only [baseT,List.cons_append,List.nil_append]
  by_cases hc:i < 2
  ·have g1:decide ((i:Int) < 2)=true:=decide_eq_true (by omega)
   have hx:=hall i hc
   have hxt:=htk i hc
   generalize ([(⟨[p0,p1,p2,p3,p4,p5],[q0,q1,q2,q3,q4,q5],rv,rt,rx⟩:Fr),⟨[d0,d1,d2,d3,d4,d5],[s0,s1,s2,s3,s4,s5],fv,ft,fx⟩].getD i ⟨[p0,p1,p2,p3,p4,p5],[q0,q1,q2,q3,q4,q5],rv,rt,rx⟩)=x at *
   have h5:=hx.ok.d6
   have h6:=hx.ok.s6
   have hse1:=fun p=>hse p x hx
   have hsx1:=fun p=>hsx p x hx
   have hok1:=fun p=>hok p x hx
   clear hse hsx hok
   obtain ⟨xd,xs,xv,xt,xx⟩:=x
   dsimp only at h5 h6
   obtain ⟨b0,b1,b2,b3,b4,b5,rfl⟩:=six_of h5
   obtain ⟨c0,c1,c2,c3,c4,c5,rfl⟩:=six_of h6
   refine Wq<|qW 59 60 rfl<|qK rfl<|Nl<|Wq<|Wt rfl ‹_›<|Wu<|Wq<|Wb<|Wq<|qW 64 68 rfl<|qJ rfl rfl ty47 ty26 (by omega)<|Od rfl rfl (Lg rfl rfl ty26 rfl hxt)<|qB rfl ty26<|qS rfl ty26 (Sl rfl) rfl<|Nl<|Wq<|Wd 72 80 (by decide) rfl mixed rfl<|qM rfl<|qF rfl ty39 rfl<|qL rfl ty3 rfl<|qM rfl<|qY rfl (hm2) fok17 rfl<|Od rfl rfl (LO.buildSlice rfl ty27 ty3 (by decide) (by decide) (.cons rfl rfl rfl rfl (Sl rfl) (.cons rfl rfl rfl rfl (Sl rfl) (.cons rfl rfl rfl rfl (Sl rfl) .nil))))<|Od rfl rfl (LO.len rfl rfl ty27)<|qM rfl<|Nl ⟨by kernel_rfl,(Wy (t:=55) rfl rfl (Tl rfl) rfl<|Wb<|W.loop_keep (α:=Nat) (fun x=>3 - x) 4 (fun x=>[(11,.own 0 0),(12,.own 1 0),(14,.own 2 0),(16,.own 3 0),(57,.base (.int .i64 (x:Int)))]) (fun x=>up (up (up (up mt 0 (some (fabC ⟨fsw,flk,fdn,fdd⟩))) 1 (some ([.base (.int .i64 P.id),.base (.int .i64 (g P.id)),.base (.int .i64 P.sw),.isl (macsC P.macs) P.macs.length,.isl (adsC (ad1 P.v4)) (ad1 P.v4).length,.isl (adsC (ad1 P.v6)) (ad1 P.v6).length,.base (.int .i64 2),.base (.int .i64 3)]))) 2 (some (bkC ⟨lv,2,3⟩))) 3 (some (frC ⟨[b0,b1,b2,b3,b4,b5],[c0,c1,c2,c3,c4,c5],xv,xt,xx⟩))) (fun x=>x≤3) 0 [(0,0),(1,1),(2,2),(3,66)] (.cons (t:=2) rfl (by exact .inl rfl) (.cons (t:=9) rfl (by exact .inl rfl) (.cons (t:=10) rfl (by exact .inl rfl) (.cons (t:=44) rfl (by exact .inl rfl) (.cons (t:=45) rfl (by exact .inl rfl) (.cons (t:=46) rfl (by exact .inl rfl) (.cons (t:=55) rfl (by exact .inl rfl) (.cons (t:=56) rfl (by exact .inl rfl) .nil)))))))) (show 0≤3 from Nat.zero_le _) (by decide) ?_ ?_ ?_)⟩
   ·exact lC (lI rfl) (lC (lI rfl) (lC (lI rfl) (lC (lI rfl) (lC (lR rfl) lN))))
   ·exact aU (kR rfl) (aU (kR rfl) (aU (kR rfl) (aU (kR rfl) aM)))
   rintro k hIB ihB
   try (dsimp only at hIB)
   try dsimp only [baseT,List.cons_append,List.nil_append]
   by_cases hd:k < 3
   ·have g2:decide ((k:Int) < 3)=true:=decide_eq_true (by omega)
    obtain ⟨pp,hsl⟩:∃ pp,([.base (.int .i64 port),.base (.int .i64 P.id),.base (.int .i64 p50)]:List AV)[k * 1]?=some (.base (.int .i64 pp)):=by
     match k,hd with
     | 0,_=>exact ⟨_,rfl⟩
     | 1,_=>exact ⟨_,rfl⟩
     | 2,_=>exact ⟨_,rfl⟩
    have hse2:=hse1 pp
    have hsx2:=hsx1 pp
    obtain ⟨hk1,hk2⟩:=hok1 pp
    unfold fwdV at hse2 hsx2
    generalize ff pp ⟨[b0,b1,b2,b3,b4,b5],[c0,c1,c2,c3,c4,c5],xv,xt,xx⟩=R at *
    obtain ⟨⟨dp,lk,⟨yd,ys,yv,yt,yx⟩⟩,⟨lw,rate,burst⟩,vv⟩:=R
    dsimp only at hse2 hsx2 hk1 hk2
    have hsame:=sameD_refl ⟨dp,lk,⟨yd,ys,yv,yt,yx⟩⟩ hk1 hk2
    have h7:=hk1.d6
    have h8:=hk1.s6
    dsimp only at h7 h8
    obtain ⟨e0,e1,e2,e3,e4,e5,rfl⟩:=six_of h7
    obtain ⟨f0,f1,f2,f3,f4,f5,rfl⟩:=six_of h8
    have n3:(vv != vv)=false:=by simp
    refine Wq<|qW 84 85 rfl<|qK rfl<|Nl<|Wq<|Wt rfl ‹_›<|Wu<|Wq<|Wb<|Wq<|qW 89 92 rfl<|qJ rfl rfl ty27 ty3 (by omega)<|Od rfl rfl (Li rfl rfl hsl ty3 rfl)<|qA rfl<|Nl<|Wq<|Wd 96 114 (by decide) rfl mixed rfl<|qM rfl<|qM rfl<|qY rfl (lan4_any) fok19 rfl<|qY rfl (lan6_any) fok20 rfl<|qG rfl ty35 rfl (Tl rfl)<|qG rfl ty46 rfl (Tl rfl)<|qM rfl<|qG rfl ty26 rfl (Tl rfl)<|Od rfl rfl (C0 (fr:=[]) rfl rfl (hse2) fok18 (qArgs rfl rfl) rfl)<|qM rfl<|qX rfl<|qX rfl<|qX rfl<|qB rfl ty49<|qB rfl ty46<|qS rfl ty49 (Sl rfl) rfl<|qS rfl ty46 (Sl rfl) rfl<|qA rfl<|Nl ⟨by kernel_rfl,(Wq<|Wd 118 136 (by decide) rfl mixed rfl<|qM rfl<|qM rfl<|qY rfl (lan4_any) fok19 rfl<|qY rfl (lan6_any) fok20 rfl<|qG rfl ty35 rfl (Tl rfl)<|qG rfl ty46 rfl (Tl rfl)<|qM rfl<|qG rfl ty26 rfl (Tl rfl)<|Od rfl rfl (C0 (fr:=[]) rfl rfl (hsx2) fok21 (qArgs rfl rfl) rfl)<|qM rfl<|qX rfl<|qX rfl<|qX rfl<|qB rfl ty49<|qB rfl ty46<|qS rfl ty49 (Sl rfl) rfl<|qS rfl ty46 (Sl rfl) rfl<|qA rfl<|Nl ⟨by kernel_rfl,(Wq<|qW 140 154 rfl<|qG rfl ty49 rfl (Tl rfl)<|qG rfl ty49 rfl (Tl rfl)<|qY rfl (hsame) fok22 rfl<|qO rfl<|qM rfl<|gG rfl rfl ty46 rfl (Tl rfl)<|gG rfl rfl ty46 rfl (Tl rfl)<|qU rfl rfl rfl (LO.neBk ⟨lw,rate,burst⟩ rfl rfl rfl)<|qP rfl rfl rfl<|qM rfl<|gM rfl rfl<|gM rfl rfl<|gN rfl rfl<|qP rfl rfl rfl<|Nl<|Wo rfl ‹_›<|Wu<|qW 163 165 rfl<|qZ rfl (iW _ (by omega))<|qM rfl<|Nl<|WL.renameL [(0,0),(1,1),(2,2),(3,3)] 4 (by decide) ?_ ?_ (ihB (k + 1) (show 3 - (k + 1) < 3 - k from by omega) (show (k + 1)≤3 from by omega)))⟩)⟩
    ·exact lC (lI rfl) (lC (lI rfl) (lC (lI rfl) (lC (lI rfl) (lC (lR rfl) (lC (lR rfl) (lC (lR rfl) (lC (lR rfl) (lC (lR rfl) (lC (lR rfl) (lC (lR rfl) (lC (lR rfl) (lC (lR rfl) lN))))))))))))
    ·exact aU (kR rfl) (aU (kR rfl) (aU (kR rfl) (aU (kR rfl) aM)))
   ·have g2:decide ((k:Int) < 3)=false:=decide_eq_false (by omega)
    refine Wq<|qW 84 85 rfl<|qK rfl<|Nl<|Wq<|Wo rfl ‹_›<|Wx<|qW 169 171 rfl<|qZ rfl (iW _ (by omega))<|qM rfl<|Nl<|WL.renameL [(0,0),(1,1),(2,2)] 3 (by decide) ?_ ?_ (ihA (i + 1) (show 2 - (i + 1) < 2 - i from by omega) (show (i + 1)≤2 from by omega))
    ·exact lC (lI rfl) (lC (lI rfl) (lC (lI rfl) (lC (lR rfl) (lC (lR rfl) (lC (lR rfl) (lC (lR rfl) (lC (lR rfl) (lC (lR rfl) lN))))))))
    ·exact aU (kR rfl) (aU (kR rfl) (aU (kR rfl) aM))
  ·have g1:decide ((i:Int) < 2)=false:=decide_eq_false (by omega)
   refine Wq<|qW 59 60 rfl<|qK rfl<|Nl<|Wq<|Wo rfl ‹_›<|Wx<|Wq<|qW 175 177 rfl<|qY rfl (hawk) fok14 rfl<|qA rfl<|Nl<|Wz ⟨.inl rfl,_,mt,Rc (Rt rfl) (Rv),aM,?_⟩
   exact ⟨rfl,rfl⟩
end Go.Proofs.YtlcndmciognneaaGreatDoor
