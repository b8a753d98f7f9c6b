/-
  The rule of a port, budgets, and what becomes of a frame; by the program and by the document. The setting of chapter 14; deliveries that are the same; whom a frame reaches is there. ForwardBelongs: its law.
-/
import Derived.Test.YtlcndmciognneaaGreatDoorWf
import Derived.Test.YtlcndmciognneaaGreatDoorIb
import Derived.Test.YtlcndmciognneaaGreatDoorGb
import Derived.Test.YtlcndmciognneaaGreatDoorMab
namespace Go.Proofs.YtlcndmciognneaaGreatDoor
open Go.RowKit
def zRl:Rl:=⟨0,0,0,[],[],[],0,0⟩
def ruleD (l:List Rl) (p:Int):Rl:=(ruleF l p).getD zRl
def ruleV (l:List Rl) (p:Int):AV:=.tup [.agg (ruleC (ruleD l p)),.base (.bool (ruleF l p).isSome)]
theorem ruleF_mem:∀ {l:List Rl} {p:Int} {r:Rl},ruleF l p=some r→r∈l∧r.port=p:=by
  intro l
  induction l with
  | nil=>intro p r h;cases h
  | cons x l ih =>
    intro p r h
    rw [show ruleF (x::l) p=if x.port == p then some x else ruleF l p from rfl] at h
    split at h
    · rename_i he
      injection h with h
      subst h
      exact ⟨by simp,by simpa using he⟩
    · obtain ⟨h1,h2⟩:=ih h
      exact ⟨by simp [h1],h2⟩
theorem copyX_any (r:Rl) (hr:RlOk r):AFn Tryz.prog 60 0 [.agg (ruleC r)] mt (.agg (ruleC r)) mt:=by
  refine AFn.eq Tryz.func60 rfl rfl (Nat.le_of_ble_eq_true rfl) ?_
  have h6:=fun m hm=>(hr.macs m hm).1
  have z1:=macsC_len h6
  have z2:=adsC_len r.v4
  have z3:=adsC_len r.v6
  have n1:=hr.nm.2
  have n2:=hr.n4
  have n3:=hr.n6
  obtain ⟨r1,r2,r3,ms,v4,v6,r7,r8⟩:=r
  clear hr
  dsimp only at h6 z1 z2 z3 n1 n2 n3
  unfold ruleC
  dsimp only
  refine Wq (qW 0 2 rfl (qC rfl (qB rfl ty39 (Nl (Wq (Wd 6 21 (by decide) rfl mixed rfl (qF rfl ty39 rfl (qL rfl ty36 rfl (Od rfl rfl (Lan rfl rfl (Ssi rfl rfl z1) ty36 ty36 ty23 (by decide) (by omega) (by omega) (by decide)) (qF rfl ty39 rfl (qL rfl ty37 rfl (Od rfl rfl (Lan rfl rfl (Ssi rfl rfl z2) ty37 ty37 ty54 (by decide) (by omega) (by omega) (by decide)) (qF rfl ty39 rfl (qL rfl ty37 rfl (Od rfl rfl (Lan rfl rfl (Ssi rfl rfl z3) ty37 ty37 ty54 (by decide) (by omega) (by omega) (by decide)) (qF rfl ty39 rfl (qS rfl ty36 (Sl rfl) rfl (qF rfl ty39 rfl (qS rfl ty37 (Sl rfl) rfl (qF rfl ty39 rfl (qS rfl ty37 (Sl rfl) rfl (Nl ⟨by kernel_rfl,(Wv (q:=0) (j:=3) (r:=8) rfl rfl (by decide) rfl (macs_all h6) (macsC_pure _) (Sl rfl) (Wv (q:=0) (j:=4) (r:=11) rfl rfl (by decide) rfl (ads_all rfl) (adsC_pure _) (Sl rfl) (Wv (q:=0) (j:=5) (r:=14) rfl rfl (by decide) rfl (ads_all rfl) (adsC_pure _) (Sl rfl) (Wq (qW 25 27 rfl (qG rfl ty39 rfl (Tl rfl) (qS rfl ty39 (Sl rfl) rfl (Nl ?_))))))))⟩))))))))))))))))))))))
  refine W.ret ⟨.inl rfl,_,mt,(RVs.cons (RV.cellA rfl rfl ty39 rfl (Tk.lit rfl)) RVs.nil),(by (repeat' (first|exact all_mt|refine all_up ?_ ?_))<;>rfl),?_⟩
  exact ⟨rfl,rfl⟩
theorem ruleE_any (l:List Rl) (p:Int) (hl:l.length≤1000) (hr:∀ x,x∈l→RlOk x):AFn Tryz.prog 52 0 [.isl (rulesC l) l.length,.base (.int .i64 p)] mt (ruleV l p) mt:=by
  refine AFn.eq Tryz.func52 rfl rfl (Nat.le_of_ble_eq_true rfl) ?_
  unfold ruleV ruleD
  refine Wq (qW 0 2 rfl (qB rfl ty39 (qA rfl (Nl (Wq (Wq (qW 6 9 rfl (qM rfl (qH rfl ty30 (qM rfl (Nl (Wb (W.loop_keep (α:=Nat) (fun x=>l.length - x) 1 (fun x=>[(4,.own 0 0),(10,.base (.int .i64 (x:Int)))]) (fun x=>up mt 0 (some ([.base (.int .i64 0),.base (.int .i64 0),.base (.int .i64 0),.nils,.nils,.nils,.base (.int .i64 0),.base (.int .i64 0)]))) (fun x=>x≤l.length∧ruleF (l.drop x) p=ruleF l p) 0 [(0,0)] (.cons (t:=1) rfl (by exact .inl rfl) (.cons (t:=8) rfl (by exact .inl rfl) (.cons (t:=9) rfl (by exact .inl rfl) .nil))) (show 0≤l.length∧ruleF (l.drop 0) p=ruleF l p from ⟨Nat.zero_le _,rfl⟩) (by decide) ?_ ?_ ?_)))))))))))))
  · exact lC (lI rfl) (lC (lR rfl) lN)
  · exact aU (kR rfl) aM
  rintro i hIA ihA
  try (dsimp only at hIA)
  try dsimp only [baseT,List.cons_append,List.nil_append]
  obtain ⟨hi,hw⟩:=hIA
  by_cases hc:i < l.length
  · have g1:decide ((i:Int) < (l.length:Int))=true:=decide_eq_true (by omega)
    have how:=owned_any _ (hr _ (List.getElem_mem hc))
    have hdr:ruleF (l.drop i) p=if l[i].port == p then some l[i] else ruleF (l.drop (i + 1)) p:=by
      rw [List.drop_eq_getElem_cons hc];rfl
    refine Wq (qW 13 14 rfl (qK rfl (Nl (Wq (Wt rfl ‹_› (Wu (Wq (Wb (Wq (qW 18 22 rfl (qJ rfl rfl ty30 ty39 (by omega) (Od rfl rfl (Lg rfl rfl ty39 rfl (rules_tk hc)) (qB rfl ty39 (qS rfl ty39 (Sl rfl) rfl (Nl ?_)))))))))))))))
    generalize l[i]=x at *
    rw [hdr] at hw
    cases k1:(x.port == p)
    ·
      rw [k1] at hw
      refine Wq (qW 26 30 rfl (qF rfl ty39 rfl (qL rfl ty3 rfl (qM rfl (qE rfl (Nl (Wo rfl ‹_› (Wu (qW 42 44 rfl (qZ rfl (iW _ (by omega)) (qM rfl (Nl (WL.renameL [(0,0)] 1 (by decide) ?_ ?_ (ihA (i + 1) (show l.length - (i + 1) < l.length - i from by omega) (show (i + 1)≤l.length∧ruleF (l.drop (i + 1)) p=ruleF l p from ⟨by omega,hw⟩)))))))))))))))
      · exact lC (lI rfl) (lC (lR rfl) (lC (lR rfl) (lC (lR rfl) (lC (lR rfl) lN))))
      · exact aU (kR rfl) aM
    ·
      rw [k1] at hw
      have e:ruleF l p=some x:=by rw [← hw];rfl
      rw [e]
      refine Wq (qW 26 30 rfl (qF rfl ty39 rfl (qL rfl ty3 rfl (qM rfl (qE rfl (Nl (Wt rfl ‹_› (Wq (qW 34 38 rfl (qG rfl ty39 rfl (Tl rfl) (qY rfl (how) fok102 rfl (qS rfl ty39 (Sl rfl) rfl (qA rfl (Nl ?_))))))))))))))
      refine W.ret ⟨.inl rfl,_,mt,(RVs.cons (RV.cellA rfl rfl ty39 rfl (Tk.lit rfl)) (RVs.cons (RV.tmp rfl) RVs.nil)),(by (repeat' (first|exact all_mt|refine all_up ?_ ?_))<;>rfl),?_⟩
      exact ⟨rfl,rfl⟩
  · have g1:decide ((i:Int) < (l.length:Int))=false:=decide_eq_false (by omega)
    obtain rfl:i=l.length:=by omega
    rw [List.drop_length] at hw
    rw [← hw]
    refine Wq (qW 13 14 rfl (qK rfl (Nl (Wq (Wo rfl ‹_› (Wx (Wq (qW 48 51 rfl (Od rfl rfl (Bs rfl ty39 .nil) (qS rfl ty39 (Sl rfl) rfl (qA rfl (Nl (W.nilc (q:=0) (j:=3) rfl rfl (Sl rfl) (W.nilc (q:=0) (j:=4) rfl rfl (Sl rfl) (W.nilc (q:=0) (j:=5) rfl rfl (Sl rfl) ?_)))))))))))))))
    refine W.ret ⟨.inl rfl,_,mt,(RVs.cons (RV.cellA rfl rfl ty39 rfl (Tk.lit rfl)) (RVs.cons (RV.tmp rfl) RVs.nil)),(by (repeat' (first|exact all_mt|refine all_up ?_ ?_))<;>rfl),?_⟩
    exact ⟨rfl,rfl⟩
theorem ruleX_any (l:List Rl) (p:Int) (hl:l.length≤1000) (hr:∀ x,x∈l→RlOk x):AFn Tryz.prog 24 0 [.isl (rulesC l) l.length,.base (.int .i64 p)] mt (ruleV l p) mt:=by
  refine AFn.eq Tryz.func24 rfl rfl (Nat.le_of_ble_eq_true rfl) ?_
  unfold ruleV ruleD
  refine Wq (qW 0 2 rfl (qB rfl ty39 (qA rfl (Nl (Wq (Wq (qW 6 9 rfl (qM rfl (qH rfl ty30 (qM rfl (Nl (Wb (W.loop_keep (α:=Nat) (fun x=>l.length - x) 1 (fun x=>[(4,.own 0 0),(10,.base (.int .i64 (x:Int)))]) (fun x=>up mt 0 (some ([.base (.int .i64 0),.base (.int .i64 0),.base (.int .i64 0),.nils,.nils,.nils,.base (.int .i64 0),.base (.int .i64 0)]))) (fun x=>x≤l.length∧ruleF (l.drop x) p=ruleF l p) 0 [(0,0)] (.cons (t:=1) rfl (by exact .inl rfl) (.cons (t:=8) rfl (by exact .inl rfl) (.cons (t:=9) rfl (by exact .inl rfl) .nil))) (show 0≤l.length∧ruleF (l.drop 0) p=ruleF l p from ⟨Nat.zero_le _,rfl⟩) (by decide) ?_ ?_ ?_)))))))))))))
  · exact lC (lI rfl) (lC (lR rfl) lN)
  · exact aU (kR rfl) aM
  rintro i hIA ihA
  try (dsimp only at hIA)
  try dsimp only [baseT,List.cons_append,List.nil_append]
  obtain ⟨hi,hw⟩:=hIA
  by_cases hc:i < l.length
  · have g1:decide ((i:Int) < (l.length:Int))=true:=decide_eq_true (by omega)
    have how:=copyX_any _ (hr _ (List.getElem_mem hc))
    have hdr:ruleF (l.drop i) p=if l[i].port == p then some l[i] else ruleF (l.drop (i + 1)) p:=by
      rw [List.drop_eq_getElem_cons hc];rfl
    refine Wq (qW 13 14 rfl (qK rfl (Nl (Wq (Wt rfl ‹_› (Wu (Wq (Wb (Wq (qW 18 22 rfl (qJ rfl rfl ty30 ty39 (by omega) (Od rfl rfl (Lg rfl rfl ty39 rfl (rules_tk hc)) (qB rfl ty39 (qS rfl ty39 (Sl rfl) rfl (Nl ?_)))))))))))))))
    generalize l[i]=x at *
    rw [hdr] at hw
    cases k1:(x.port == p)
    ·
      rw [k1] at hw
      refine Wq (qW 26 30 rfl (qF rfl ty39 rfl (qL rfl ty3 rfl (qM rfl (qE rfl (Nl (Wo rfl ‹_› (Wu (qW 42 44 rfl (qZ rfl (iW _ (by omega)) (qM rfl (Nl (WL.renameL [(0,0)] 1 (by decide) ?_ ?_ (ihA (i + 1) (show l.length - (i + 1) < l.length - i from by omega) (show (i + 1)≤l.length∧ruleF (l.drop (i + 1)) p=ruleF l p from ⟨by omega,hw⟩)))))))))))))))
      · exact lC (lI rfl) (lC (lR rfl) (lC (lR rfl) (lC (lR rfl) (lC (lR rfl) lN))))
      · exact aU (kR rfl) aM
    ·
      rw [k1] at hw
      have e:ruleF l p=some x:=by rw [← hw];rfl
      rw [e]
      refine Wq (qW 26 30 rfl (qF rfl ty39 rfl (qL rfl ty3 rfl (qM rfl (qE rfl (Nl (Wt rfl ‹_› (Wq (qW 34 38 rfl (qG rfl ty39 rfl (Tl rfl) (qY rfl (how) fok60 rfl (qS rfl ty39 (Sl rfl) rfl (qA rfl (Nl ?_))))))))))))))
      refine W.ret ⟨.inl rfl,_,mt,(RVs.cons (RV.cellA rfl rfl ty39 rfl (Tk.lit rfl)) (RVs.cons (RV.tmp rfl) RVs.nil)),(by (repeat' (first|exact all_mt|refine all_up ?_ ?_))<;>rfl),?_⟩
      exact ⟨rfl,rfl⟩
  · have g1:decide ((i:Int) < (l.length:Int))=false:=decide_eq_false (by omega)
    obtain rfl:i=l.length:=by omega
    rw [List.drop_length] at hw
    rw [← hw]
    refine Wq (qW 13 14 rfl (qK rfl (Nl (Wq (Wo rfl ‹_› (Wx (Wq (qW 48 51 rfl (Od rfl rfl (Bs rfl ty39 .nil) (qS rfl ty39 (Sl rfl) rfl (qA rfl (Nl (W.nilc (q:=0) (j:=3) rfl rfl (Sl rfl) (W.nilc (q:=0) (j:=4) rfl rfl (Sl rfl) (W.nilc (q:=0) (j:=5) rfl rfl (Sl rfl) ?_)))))))))))))))
    refine W.ret ⟨.inl rfl,_,mt,(RVs.cons (RV.cellA rfl rfl ty39 rfl (Tk.lit rfl)) (RVs.cons (RV.tmp rfl) RVs.nil)),(by (repeat' (first|exact all_mt|refine all_up ?_ ?_))<;>rfl),?_⟩
    exact ⟨rfl,rfl⟩
structure Bk where
  lv:Int
  rate:Int
  burst:Int
def bkC (b:Bk):List AV:=[.base (.int .i64 b.lv),.base (.int .i64 b.rate),.base (.int .i64 b.burst)]
def BkOk (b:Bk):Prop:=(0≤b.lv∧b.lv≤1000000)∧(0≤b.rate∧b.rate≤1000000)∧0≤b.burst∧b.burst≤1000000
theorem takeE_any (b:Bk) (hb:BkOk b):AFn Tryz.prog 53 0 [.agg (bkC b)] mt (.tup [.agg (bkC (if decide (b.lv≤0) then b else ⟨b.lv - 1,b.rate,b.burst⟩)),.base (.bool (!decide (b.lv≤0)))]) mt:=by
  refine AFn.eq Tryz.func53 rfl rfl (Nat.le_of_ble_eq_true rfl) ?_
  obtain ⟨lv,rate,burst⟩:=b
  obtain ⟨h1,h2,h3⟩:=hb
  dsimp only at h1 h2 h3 ⊢
  refine Wq (qW 0 3 rfl (qC rfl (qB rfl ty46 (qA rfl (Nl ?_)))))
  cases k1:decide (lv≤0)
  ·
    have hwr:IntKind.i64.wrap (lv - 1)=lv - 1:=IntWalk.i64_in _ (by omega)
    refine Wq (Wq (qW 7 10 rfl (qF rfl ty46 rfl (qL rfl ty3 rfl (Od rfl rfl (Le0 rfl rfl rfl) (Nl (Wo rfl ‹_› (Wu (Wq (qW 21 26 rfl (qF rfl ty46 rfl (qL rfl ty3 rfl (Od rfl rfl (LO.sub_in rfl rfl rfl hwr) (qF rfl ty46 rfl (qS rfl ty3 (Sl rfl) rfl (Nl (Wq (qW 30 33 rfl (qG rfl ty46 rfl (Tl rfl) (qS rfl ty46 (Sl rfl) rfl (qA rfl (Nl ?_))))))))))))))))))))))
    refine W.ret ⟨.inl rfl,_,mt,(RVs.cons (RV.cellA rfl rfl ty46 rfl (Tk.lit rfl)) (RVs.cons (RV.tmp rfl) RVs.nil)),(by (repeat' (first|exact all_mt|refine all_up ?_ ?_))<;>rfl),?_⟩
    exact ⟨rfl,rfl⟩
  ·
    refine Wq (Wq (qW 7 10 rfl (qF rfl ty46 rfl (qL rfl ty3 rfl (Od rfl rfl (Le0 rfl rfl rfl) (Nl (Wt rfl ‹_› (Wq (qW 14 17 rfl (qG rfl ty46 rfl (Tl rfl) (qS rfl ty46 (Sl rfl) rfl (qA rfl (Nl ?_)))))))))))))
    refine W.ret ⟨.inl rfl,_,mt,(RVs.cons (RV.cellA rfl rfl ty46 rfl (Tk.lit rfl)) (RVs.cons (RV.tmp rfl) RVs.nil)),(by (repeat' (first|exact all_mt|refine all_up ?_ ?_))<;>rfl),?_⟩
    exact ⟨rfl,rfl⟩
structure Dl where
  port:Int
  links:List Int
  fr:Fr
def dlC (d:Dl):List AV:=[.base (.int .i64 d.port),.isl (intsC d.links) d.links.length]++frC d.fr
def zDl:Dl:=⟨0,[],zFr⟩
def fwdB (r0 v0:Bool) (v:Int) (gr l0:Bool) (bk:Bk) (d0:Bool) (d:Int × Fr × Int) (w:Option (List Int)):Dl × Bk × Int :=
  if !r0 then (zDl,bk,1) else if v0 then (zDl,bk,v) else if gr && l0 then (zDl,bk,12)
  else if d0 then (zDl,if gr then ⟨bk.lv - 1,bk.rate,bk.burst⟩ else bk,d.2.2)
  else match w with
    | none=>(zDl,if gr then ⟨bk.lv - 1,bk.rate,bk.burst⟩ else bk,14)
    | some l=>(⟨d.1,l,d.2.1⟩,if gr then ⟨bk.lv - 1,bk.rate,bk.burst⟩ else bk,0)
def fwdW (rs:List Rl) (bs:List Bd) (f:Fab) (p:Int) (x:Fr):Option (List Int):=wayF f (ruleD rs p).sw (ruleD rs (dlvF rs bs p x).1).sw (hashF (x.src++(dlvF rs bs p x).2.1.dst))
def fwdF (rs:List Rl) (bs:List Bd) (f:Fab) (bk:Bk) (p:Int) (x:Fr):Dl × Bk × Int :=
  fwdB (ruleF rs p).isSome (chqV (ruleD rs p) x != 0) (chqV (ruleD rs p) x) (grpE x.dst) (decide (bk.lv≤0)) bk ((dlvF rs bs p x).2.2 != 0) (dlvF rs bs p x) (fwdW rs bs f p x)
def fwdV (s:Dl × Bk × Int):AV:=.tup [.agg (dlC s.1),.agg (bkC s.2.1),.base (.int .i64 s.2.2)]
/-- what is delivered goes to a port that is there -/
def Full (rs:List Rl) (bs:List Bd) (p:Int) (x:Fr):Prop:=(dlvF rs bs p x).2.2=0→(∃ r,ruleF rs (dlvF rs bs p x).1=some r)∧IsB (dlvF rs bs p x).2.1.dst
theorem dlvF_okX {rs:List Rl} {bs:List Bd} {fm:Int} {f:Fr} (ht:TablesOk rs bs) (hf:FrX f):FrOk (dlvF rs bs fm f).2.1:=by
  unfold dlvF
  split
  · exact ⟨rfl,rfl,fun x hx=>by simp [zFr] at hx,by simp [zFr]⟩
  · exact ⟨tgtF_len ht hf.ok,hf.ok.s6,hf.ok.bB,hf.ok.bl⟩
set_option maxHeartbeats 8000000 in
theorem sendE_any (rs:List Rl) (bs:List Bd) (f:Fab) (bk:Bk) (p:Int) (x:Fr) (hrs:rs.length≤1000) (hro:∀ r,r∈rs→RlOk r) (ht:TablesOk rs bs) (hf:FabS f) (he:EndsIn f) (hb:BkOk bk) (hx:FrX x) (hfull:Full rs bs p x) :
    AFn Tryz.prog 18 0 [.isl (rulesC rs) rs.length,.isl (bdsC bs) bs.length,.agg (preC lan4),.agg (preC lan6),.agg (fabC f),.agg (bkC bk),.base (.int .i64 p),.agg (frC x)] mt (fwdV (fwdF rs bs f bk p x)) mt:=by
  refine AFn.eq Tryz.func18 rfl rfl (Nat.le_of_ble_eq_true rfl) ?_
  have hru:=ruleE_any rs p hrs hro
  have hg:=grE_any x hx
  have htk:=takeE_any bk hb
  have hdl:=deliver_any rs bs p x ht hx.ok
  have hru2:=ruleE_any rs (dlvF rs bs p x).1 hrs hro
  have hok:=dlvF_okX (fm:=p) ht hx
  have hck:=fun r hr=>fchE_any r (RlOk.g (hro r hr)) x hx
  have hmem:=fun r=>@ruleF_mem rs p r
  have hwy:=fun a b h=>way_any f hf he a b h
  have hsB:=hx.sB
  unfold Full at hfull
  unfold fwdF fwdW
  unfold ruleV at hru hru2
  unfold ruleD at hru hru2 ⊢
  unfold dlvV at hdl
  generalize dlvF rs bs p x=d at *
  obtain ⟨dp,⟨dd,ds,dv,dt,dx⟩,dw⟩:=d
  dsimp only at hdl hru2 hok hfull ⊢
  have o6:=hok.d6
  have u6:=hok.s6
  dsimp only at o6 u6
  clear hok
  obtain ⟨e0,e1,e2,e3,e4,e5,rfl⟩:=six_of o6
  obtain ⟨f0,f1,f2,f3,f4,f5,rfl⟩:=six_of u6
  generalize ruleF rs p=R1 at *
  generalize ruleF rs dp=R2 at *
  generalize grpE x.dst=gr at *
  obtain ⟨l0,hl0⟩:∃ b,decide (bk.lv≤0)=b:=⟨_,rfl⟩
  rw [hl0] at htk ⊢
  obtain ⟨d0,hd0⟩:∃ b,(dw != 0)=b:=⟨_,rfl⟩
  rw [hd0]
  obtain ⟨lv,rate,burst⟩:=bk
  dsimp only at htk hl0
  obtain ⟨fd,fs,fv,ft,fx⟩:=x
  have p6:=hx.ok.d6
  have q6:=hx.ok.s6
  clear hx hb
  dsimp only at p6 q6 hg hsB ⊢
  obtain ⟨p0,p1,p2,p3,p4,p5,rfl⟩:=six_of p6
  obtain ⟨q0,q1,q2,q3,q4,q5,rfl⟩:=six_of q6
  refine Wq (qW 0 8 rfl (qC rfl (qC rfl (qC rfl (qC rfl (qC rfl (qB rfl ty49 (qB rfl ty46 (qA rfl (Nl (Wq (qW 12 15 rfl (Od rfl rfl (Bs rfl ty49 .nil) (qB rfl ty49 (qS rfl ty49 (Sl rfl) rfl (Nl (W.nilc (q:=13) (j:=1) rfl rfl (Sl rfl) (W.nilc (q:=13) (j:=16) rfl rfl (Sl rfl) ?_))))))))))))))))))
  cases R1 with
  | none =>
    refine Wq (qW 19 28 rfl (qM rfl (qM rfl (qY rfl (hru) fok52 rfl (qM rfl (qX rfl (qX rfl (qB rfl ty39 (qS rfl ty39 (Sl rfl) rfl (qA rfl (Nl (Wq (Wq (qW 32 34 rfl (qM rfl (qO rfl (Nl (Wt rfl rfl (Wq (Wd 38 43 (by decide) rfl mixed rfl (qG rfl ty49 rfl (Tl rfl) (qG rfl ty46 rfl (Tl rfl) (qS rfl ty49 (Sl rfl) rfl (qS rfl ty46 (Sl rfl) rfl (qA rfl (Nl ⟨by kernel_rfl,?_⟩))))))))))))))))))))))))))
    refine W.ret ⟨.inl rfl,_,mt,(RVs.cons (RV.cellA rfl rfl ty49 rfl (Tk.lit rfl)) (RVs.cons (RV.cellA rfl rfl ty46 rfl (Tk.lit rfl)) (RVs.cons (RV.tmp rfl) RVs.nil))),(by (repeat' (first|exact all_mt|refine all_up ?_ ?_))<;>rfl),?_⟩
    exact ⟨rfl,rfl⟩
  | some r =>
    have hchk:=hck r (hmem r rfl).1
    clear hck hmem
    dsimp only [Option.getD_some,Option.isSome_some] at hru ⊢
    generalize chqV r ⟨[p0,p1,p2,p3,p4,p5],[q0,q1,q2,q3,q4,q5],fv,ft,fx⟩=v at *
    obtain ⟨v0,hv0⟩:∃ b,(v != 0)=b:=⟨_,rfl⟩
    rw [hv0]
    obtain ⟨r1,r2,sw,r4,r5,r6,r7,r8⟩:=r
    dsimp only at hchk ⊢
    refine Wq (qW 19 28 rfl (qM rfl (qM rfl (qY rfl (hru) fok52 rfl (qM rfl (qX rfl (qX rfl (qB rfl ty39 (qS rfl ty39 (Sl rfl) rfl (qA rfl (Nl (Wq (Wq (qW 32 34 rfl (qM rfl (qO rfl (Nl (Wo rfl rfl (Wu (Wq (Wq (qW 47 53 rfl (qG rfl ty39 rfl (Tl rfl) (qG rfl ty56 rfl (Tl rfl) (qG rfl ty56 rfl (Tl rfl) (qG rfl ty26 rfl (Tl rfl) (qY rfl (hchk) fok26 rfl (qA rfl (Nl ?_)))))))))))))))))))))))))))))
    cases v0
    case' true =>
      refine Wq (qW 57 59 rfl (qM rfl (qN rfl (Nl (Wt rfl ‹_› (Wq (Wd 63 69 (by decide) rfl mixed rfl (qG rfl ty49 rfl (Tl rfl) (qG rfl ty46 rfl (Tl rfl) (qM rfl (qS rfl ty49 (Sl rfl) rfl (qS rfl ty46 (Sl rfl) rfl (qA rfl (Nl ⟨by kernel_rfl,?_⟩))))))))))))))
      refine W.ret ⟨.inl rfl,_,mt,(RVs.cons (RV.cellA rfl rfl ty49 rfl (Tk.lit rfl)) (RVs.cons (RV.cellA rfl rfl ty46 rfl (Tk.lit rfl)) (RVs.cons (RV.tmp rfl) RVs.nil))),(by (repeat' (first|exact all_mt|refine all_up ?_ ?_))<;>rfl),?_⟩
      exact ⟨rfl,rfl⟩
    case' false =>
      refine Wq (qW 57 59 rfl (qM rfl (qN rfl (Nl (Wo rfl ‹_› (Wu ?_))))))
      cases gr
      case' false =>
        refine Wq (Wq (qW 73 75 rfl (qG rfl ty26 rfl (Tl rfl) (qY rfl (hg) fok34 rfl (Nl (Wo rfl rfl (Wu ?_)))))))
        generalize hlv:lv=lw
      case' true =>
        cases l0
        case' true =>
          refine Wq (Wq (qW 73 75 rfl (qG rfl ty26 rfl (Tl rfl) (qY rfl (hg) fok34 rfl (Nl (Wt rfl rfl (Wq (qW 79 86 rfl (qG rfl ty46 rfl (Tl rfl) (qY rfl (htk) fok53 rfl (qM rfl (qX rfl (qX rfl (qS rfl ty46 (Sl rfl) rfl (qA rfl (Nl (Wq (qW 90 92 rfl (qM rfl (qO rfl (Nl (Wt rfl rfl (Wq (Wd 96 101 (by decide) rfl mixed rfl (qG rfl ty49 rfl (Tl rfl) (qG rfl ty46 rfl (Tl rfl) (qS rfl ty49 (Sl rfl) rfl (qS rfl ty46 (Sl rfl) rfl (qA rfl (Nl ⟨by kernel_rfl,?_⟩))))))))))))))))))))))))))))))
          refine W.ret ⟨.inl rfl,_,mt,(RVs.cons (RV.cellA rfl rfl ty49 rfl (Tk.lit rfl)) (RVs.cons (RV.cellA rfl rfl ty46 rfl (Tk.lit rfl)) (RVs.cons (RV.tmp rfl) RVs.nil))),(by (repeat' (first|exact all_mt|refine all_up ?_ ?_))<;>rfl),?_⟩
          exact ⟨rfl,rfl⟩
        case' false =>
          refine Wq (Wq (qW 73 75 rfl (qG rfl ty26 rfl (Tl rfl) (qY rfl (hg) fok34 rfl (Nl (Wt rfl rfl (Wq (qW 79 86 rfl (qG rfl ty46 rfl (Tl rfl) (qY rfl (htk) fok53 rfl (qM rfl (qX rfl (qX rfl (qS rfl ty46 (Sl rfl) rfl (qA rfl (Nl (Wq (qW 90 92 rfl (qM rfl (qO rfl (Nl (Wo rfl rfl (Wu ?_)))))))))))))))))))))))
          dsimp only
          generalize hlv:lv - 1=lw
      all_goals
        repeat (refine W.seq ?_)
        refine qW 105 118 rfl (qM rfl (qM rfl (qM rfl (qG rfl ty26 rfl (Tl rfl) (qY rfl (hdl) fok54 rfl (qM rfl (qX rfl (qX rfl (qX rfl (qB rfl ty26 (qA rfl (qS rfl ty26 (Sl rfl) rfl (qA rfl (Nl ?_))))))))))))))
        cases d0
        ·
          have hw0:dw=0:=by simpa using hd0
          obtain ⟨⟨r',e'⟩,hdB⟩:=hfull hw0
          subst e'
          obtain ⟨x1,x2,sw2,x4,x5,x6,x7,x8⟩:=r'
          dsimp only [Option.getD_some,Option.isSome_some] at hru2 ⊢
          have hha:=hash_any [q0,q1,q2,q3,q4,q5] [e0,e1,e2,e3,e4,e5] rfl rfl hsB hdB
          have hway:=hwy sw sw2 (hashF ([q0,q1,q2,q3,q4,q5]++[e0,e1,e2,e3,e4,e5]))
          unfold wayV at hway
          generalize wayF f sw sw2 (hashF ([q0,q1,q2,q3,q4,q5]++[e0,e1,e2,e3,e4,e5]))=w at *
          repeat (refine W.seq ?_)
          refine qW 122 124 rfl (qM rfl (qN rfl (Nl (Wo rfl ‹_› (Wu ?_)))))
          repeat (refine W.seq ?_)
          refine qW 138 147 rfl (qM rfl (qM rfl (qY rfl (hru2) fok52 rfl (qM rfl (qX rfl (qX rfl (qB rfl ty39 (qS rfl ty39 (Sl rfl) rfl (qA rfl (Nl ?_))))))))))
          cases w with
          | none =>
            dsimp only [Option.getD_none,Option.isSome_none] at hway
            repeat (refine W.seq ?_)
            refine Wd 151 167 (by decide) rfl mixed rfl (qG rfl ty35 rfl (Tl rfl) (qF rfl ty39 rfl (qL rfl ty3 rfl (qF rfl ty39 rfl (qL rfl ty3 rfl (qF rfl ty26 rfl (qG rfl ty23 rfl (Tl rfl) (qF rfl ty26 rfl (qG rfl ty23 rfl (Tl rfl) (qY rfl (hha) fok45 rfl (qY rfl (hway) fok44 rfl (qM rfl (qX rfl (qX rfl (qA rfl (qA rfl (Nl ⟨by kernel_rfl,?_⟩)))))))))))))))))
            repeat (refine W.seq ?_)
            refine qW 171 177 rfl (qM rfl (qO rfl (qM rfl (qU rfl rfl rfl (Mv rfl rfl) (qU rfl rfl rfl (Nt rfl rfl) (qP rfl rfl rfl (Nl (Wt rfl rfl ?_))))))))
            repeat (refine W.seq ?_)
            refine Wd 181 186 (by decide) rfl mixed rfl (qG rfl ty49 rfl (Tl rfl) (qG rfl ty46 rfl (Tl rfl) (qS rfl ty49 (Sl rfl) rfl (qS rfl ty46 (Sl rfl) rfl (qA rfl (Nl ⟨by kernel_rfl,?_⟩))))))
            refine W.ret ⟨.inl rfl,_,mt,(RVs.cons (RV.cellA rfl rfl ty49 rfl (Tk.lit rfl)) (RVs.cons (RV.cellA rfl rfl ty46 rfl (Tk.lit rfl)) (RVs.cons (RV.tmp rfl) RVs.nil))),(by (repeat' (first|exact all_mt|refine all_up ?_ ?_))<;>rfl),?_⟩
            exact ⟨by rw [← hlv];rfl,rfl⟩
          | some lk =>
            dsimp only [Option.getD_some,Option.isSome_some] at hway
            repeat (refine W.seq ?_)
            refine Wd 151 167 (by decide) rfl mixed rfl (qG rfl ty35 rfl (Tl rfl) (qF rfl ty39 rfl (qL rfl ty3 rfl (qF rfl ty39 rfl (qL rfl ty3 rfl (qF rfl ty26 rfl (qG rfl ty23 rfl (Tl rfl) (qF rfl ty26 rfl (qG rfl ty23 rfl (Tl rfl) (qY rfl (hha) fok45 rfl (qY rfl (hway) fok44 rfl (qM rfl (qX rfl (qX rfl (qA rfl (qA rfl (Nl ⟨by kernel_rfl,?_⟩)))))))))))))))))
            repeat (refine W.seq ?_)
            refine qW 171 177 rfl (qM rfl (qO rfl (qM rfl (qU rfl rfl rfl (Mv rfl rfl) (qU rfl rfl rfl (Nt rfl rfl) (qP rfl rfl rfl (Nl (Wo rfl rfl (Wu ?_)))))))))
            repeat (refine W.seq ?_)
            refine Wd 190 198 (by decide) rfl mixed rfl (qM rfl (qM rfl (qG rfl ty26 rfl (Tl rfl) (Od rfl rfl (Bs rfl ty49 (.cons rfl rfl rfl rfl (Sl rfl) (.cons rfl rfl rfl rfl (Sl rfl) (.cons rfl rfl rfl rfl (Sl rfl) .nil)))) (qG rfl ty46 rfl (Tl rfl) (qS rfl ty49 (Sl rfl) rfl (qS rfl ty46 (Sl rfl) rfl (qA rfl (Nl ⟨by kernel_rfl,?_⟩)))))))))
            refine W.ret ⟨.inl rfl,_,mt,(RVs.cons (RV.cellA rfl rfl ty49 rfl (Tk.lit rfl)) (RVs.cons (RV.cellA rfl rfl ty46 rfl (Tk.lit rfl)) (RVs.cons (RV.tmp rfl) RVs.nil))),(by (repeat' (first|exact all_mt|refine all_up ?_ ?_))<;>rfl),?_⟩
            exact ⟨by rw [← hlv];rfl,rfl⟩
        ·
          repeat (refine W.seq ?_)
          refine qW 122 124 rfl (qM rfl (qN rfl (Nl (Wt rfl ‹_› ?_))))
          repeat (refine W.seq ?_)
          refine Wd 128 134 (by decide) rfl mixed rfl (qG rfl ty49 rfl (Tl rfl) (qG rfl ty46 rfl (Tl rfl) (qM rfl (qS rfl ty49 (Sl rfl) rfl (qS rfl ty46 (Sl rfl) rfl (qA rfl (Nl ⟨by kernel_rfl,?_⟩)))))))
          refine W.ret ⟨.inl rfl,_,mt,(RVs.cons (RV.cellA rfl rfl ty49 rfl (Tk.lit rfl)) (RVs.cons (RV.cellA rfl rfl ty46 rfl (Tk.lit rfl)) (RVs.cons (RV.tmp rfl) RVs.nil))),(by (repeat' (first|exact all_mt|refine all_up ?_ ?_))<;>rfl),?_⟩
          exact ⟨by rw [← hlv];rfl,rfl⟩
end Go.Proofs.YtlcndmciognneaaGreatDoor
namespace Go.Proofs.YtlcndmciognneaaGreatDoor
open Go.RowKit
theorem DbFine.full {l:List Int} {d:Db} (h:DbFine l d) {g:Int→Int} {bs:List Bd} (hp:List.Perm bs (bdsOf (allP d))) (p:Int) (x:Fr):Full ((allP d).map (ruleOf g 2 3)) bs p x:=by
  intro h0
  unfold dlvF at h0 ⊢
  split at h0
  · cases h0
  · rename_i hc
    rw [if_neg hc]
    have hok:(tgtF ((allP d).map (ruleOf g 2 3)) bs x).2.2=true:=by
      cases ho:(tgtF ((allP d).map (ruleOf g 2 3)) bs x).2.2
      · exact absurd (.inl ho) hc
      · rfl
    obtain ⟨q,hq,e1,e2,_⟩:=h.reach hp hok
    have hl:=h.len
    refine ⟨⟨ruleOf g 2 3 q,?_⟩,?_⟩
    · dsimp only
      rw [e1]
      exact rule_first hq fun y hy e=>h.ids hq hy e
    · dsimp only
      obtain ⟨i,hi,rfl⟩:=List.getElem_of_mem hq
      have hpo:=(h.good i hi).ok (by omega) (by omega)
      exact (hpo.macs _ e2).2.1
set_option maxHeartbeats 4000000 in
theorem setting14_any (l:List Int) (at_:Nat) (hl:l.length≤9223372036854775807) :
    ∃ v H',AFn Tryz.prog 15 1 [.own 0 0] (up mt 0 (some (deckC l at_))) v H' ∧
      ∃ (ld:List Int) (d:Db) (g:Int→Int) (bs:List Bd) (j:Nat) (f:Fr) (fb:Fab) (at':Nat) (hj:j < (allP d).length),(DbFine ld d∧List.Perm bs (bdsOf (allP d))∧MacOk bs∧FrY f∧FabOK fb) ∧
        v=.tup [.isl (rulesC ((allP d).map (ruleOf g 2 3))) ((allP d).map (ruleOf g 2 3)).length,.isl (bdsC bs) bs.length,.agg (fabC fb),.agg (ruleC (ruleOf g 2 3 (allP d)[j])),.agg (frC f)]∧H'=up mt 0 (some (deckC l at')):=by
  refine AFn.ex Tryz.func15 rfl rfl (Nat.le_of_ble_eq_true rfl) ?_
  obtain ⟨vd,Hd,hdb,d,a1,hmade,rfl,rfl⟩:=database_any l at_ hl
  have hfine:=hmade.fine
  have hlen:=hfine.len
  obtain ⟨g,hru⟩:=rules_any d hfine.ok hfine.once hfine.ports (by omega) 2 3 (by decide)
  obtain ⟨_,_,hfab,fb,a2,⟨hfok,_⟩,rfl,rfl⟩:=fabric_any l a1 4 (by decide) (by decide) hl
  obtain ⟨vb,Hb,hbi,bs,⟨hperm,hmo⟩,rfl,rfl⟩:=bindings_any d hfine.ok hfine.ports (by omega) (fun p hp=>by
    obtain ⟨i,hi,rfl⟩:=List.getElem_of_mem hp
    exact (hfine.good i hi).ok (by omega) (by omega))
  have hrl:((allP d).map (ruleOf g 2 3)).length=(allP d).length:=List.length_map _
  obtain ⟨j,hj,hjb⟩:=nat_of (nextV_bd l a2 (((allP d).map (ruleOf g 2 3)).length:Int) (by omega))
  have n4:=next_any l a2 (((allP d).map (ruleOf g 2 3)).length:Int) (by omega) (by omega) hl
  rw [hj] at n4
  have hj2:j < (allP d).length:=by omega
  have tJ:=rules_tk (l:=(allP d).map (ruleOf g 2 3)) (k:=j) (by omega)
  rw [List.getElem_map] at tJ
  have hrok:=hfine.rok g 2 3
  have hone:RlOk (ruleOf g 2 3 (allP d)[j]):=hrok _ (List.mem_map.2 ⟨_,List.getElem_mem hj2,rfl⟩)
  obtain ⟨_,_,hfr,f,a3,hfx,rfl,rfl⟩:=frame_any l (nextAt l a2) (ruleOf g 2 3 (allP d)[j]) ((allP d).map (ruleOf g 2 3)) hone hrok (by omega) (by omega) hl
  have p6:=hfx.ok.d6
  have q6:=hfx.ok.s6
  have hex : ∃ (ld : List Int) (dd : Db) (gg : Int → Int) (bb : List Bd) (i : Nat) (ff : Fr) (fbb : Fab) (aa : Nat) (hi : i < (allP dd).length), (DbFine ld dd ∧ List.Perm bb (bdsOf (allP dd)) ∧ MacOk bb ∧ FrY ff ∧ FabOK fbb) ∧
        AV.tup [.isl (rulesC ((allP d).map (ruleOf g 2 3))) ((allP d).map (ruleOf g 2 3)).length,.isl (bdsC bs) bs.length,.agg (fabC fb),.agg (ruleC (ruleOf g 2 3 (allP d)[j])),.agg (frC f)]=.tup [.isl (rulesC ((allP dd).map (ruleOf gg 2 3))) ((allP dd).map (ruleOf gg 2 3)).length,.isl (bdsC bb) bb.length,.agg (fabC fbb),.agg (ruleC (ruleOf gg 2 3 (allP dd)[i])),.agg (frC ff)]∧(up mt 0 (some (deckC l a3)):Hp)=up mt 0 (some (deckC l aa)) :=
    ⟨_,d,g,bs,j,f,fb,a3,hj2,⟨hfine,hperm,hmo,hfx,hfok⟩,rfl,rfl⟩
  obtain ⟨fd,fs,fv,ft,fx⟩:=f
  dsimp only at p6 q6
  obtain ⟨p0,p1,p2,p3,p4,p5,rfl⟩:=six_of p6
  obtain ⟨q0,q1,q2,q3,q4,q5,rfl⟩:=six_of q6
  generalize (allP d)[j]=P at *
  generalize hgr:(allP d).map (ruleOf g 2 3)=rs at *
  have hj3:j < rs.length:=by omega
  obtain ⟨sw,lks,dns,dds⟩:=fb
  clear hfine hmade hrok hone hj hfok
  refine Wq (qW 1 6 rfl (qA rfl (qA rfl (qB rfl ty35 (qB rfl ty39 (qB rfl ty26 (Nl (Wq (qW 10 14 rfl (qM rfl (Od rfl rfl (C1 (fr:=[]) rfl rfl (hdb) fok46 (.own rfl rfl .nil) rfl rfl rfl (Cn _ _) (by decide) rfl) (qB rfl ty105 (qS rfl ty105 (Sl rfl) rfl (Nl (Wq (qW 18 25 rfl (qG rfl ty105 rfl (Tl rfl) (qY rfl (hru) fok47 rfl (qM rfl (qX rfl (qX rfl (qA rfl (qA rfl (Nl (Wq (qW 29 33 rfl (qM rfl (Od rfl rfl (C1 (fr:=[]) rfl rfl (hfab) fok48 (.own rfl rfl (.cons rfl (.pure rfl) .nil)) rfl rfl rfl (Cn _ _) (by decide) rfl) (qB rfl ty35 (qS rfl ty35 (Sl rfl) rfl (Nl (Wq (qW 37 46 rfl (qM rfl (qM rfl (qM rfl (qH rfl ty30 (Od rfl rfl (C1 (fr:=[]) rfl rfl (n4) fok49 (.own rfl rfl (.cons rfl (.pure rfl) .nil)) rfl rfl rfl (Cn _ _) (by decide) rfl) (qJ rfl rfl ty30 ty39 (by omega) (Od rfl rfl (Lg rfl rfl ty39 rfl tJ) (qB rfl ty39 (qS rfl ty39 (Sl rfl) rfl (Nl (Wq (Wd 50 64 (by decide) rfl mixed rfl (qM rfl (qG rfl ty105 rfl (Tl rfl) (qY rfl (hbi) fok50 rfl (qG rfl ty35 rfl (Tl rfl) (qG rfl ty39 rfl (Tl rfl) (qM rfl (qG rfl ty39 rfl (Tl rfl) (qM rfl (Od rfl rfl (C1 (fr:=[]) rfl rfl (hfr) fok51 (.own rfl rfl (.cons rfl (.pure rfl) (.cons rfl (.pure rfl) .nil))) rfl rfl rfl (Cn _ _) (by decide) rfl) (qA rfl (qA rfl (qS rfl ty35 (Sl rfl) rfl (qS rfl ty39 (Sl rfl) rfl (qS rfl ty26 (Sl rfl) rfl (Nl ⟨by kernel_rfl,?_⟩))))))))))))))))))))))))))))))))))))))))))))))))))))))))))))
  refine W.ret ⟨.inl rfl,_,up mt 0 (some (deckC l a3)),(RVs.cons (RV.tmp rfl) (RVs.cons (RV.tmp rfl) (RVs.cons (RV.cellA rfl rfl ty35 rfl (Tk.lit rfl)) (RVs.cons (RV.cellA rfl rfl ty39 rfl (Tk.lit rfl)) (RVs.cons (RV.cellA rfl rfl ty26 rfl (Tk.lit rfl)) RVs.nil))))),(by (repeat' (first|exact all_mt|refine all_up ?_ ?_))<;>rfl),?_⟩
  exact hex
theorem wayF_len1 {f:Fab} {a b h:Int} {w:List Int} (hf:FabS f) (hw:wayF f a b h=some w):w.length≤1000:=by
  have:=wayF_len hf a b h
  rw [hw] at this
  exact Nat.le_trans this (by decide)
end Go.Proofs.YtlcndmciognneaaGreatDoor
namespace Go.Proofs.YtlcndmciognneaaGreatDoor
open Go.RowKit
theorem DbFine.one {l:List Int} {d:Db} (h:DbFine l d) {p q:Prt} (hp:p∈allP d) (hq:q∈allP d) {m:List Int} (h1:m∈p.macs) (h2:m∈q.macs):p=q:=by
  obtain ⟨i,hi,rfl⟩:=List.getElem_of_mem hp
  obtain ⟨j,hj,rfl⟩:=List.getElem_of_mem hq
  have hl:=h.len
  have e1:=(h.good i hi).mac (by omega) (by omega) _ h1
  have e2:=(h.good j hj).mac (by omega) (by omega) _ h2
  obtain rfl:i=j:=by
    rcases e1 with e1|e1<;>rcases e2 with e2|e2<;>rw [e1] at e2<;>simp at e2<;>omega
  rfl
theorem where_first:∀ {ps:List Prt} {g:Int→Int} {p:Prt} {m:List Int},p∈ps→m∈p.macs→(∀ q,q∈ps→m∈q.macs→q=p)→whereF (ps.map (ruleOf g 2 3)) m=some (ruleOf g 2 3 p):=by
  intro ps
  induction ps with
  | nil=>intro g p m h;cases h
  | cons x ps ih =>
    intro g p m h hm hu
    show (if m∈(ruleOf g 2 3 x).macs then some (ruleOf g 2 3 x) else whereF (ps.map (ruleOf g 2 3)) m)=_
    by_cases e:m∈x.macs
    · rw [if_pos (show m∈(ruleOf g 2 3 x).macs from e),hu x (by simp) e]
    · rw [if_neg (show ¬ m∈(ruleOf g 2 3 x).macs from e)]
      rcases List.mem_cons.1 h with rfl|h
      · exact absurd hm e
      · exact ih h hm fun q hq=>hu q (by simp [hq])
theorem chq_own {r:Rl} {f:Fr} (h:chqV r f=0):f.src∈r.macs:=by
  unfold chqV chqB at h
  split at h
  · cases h
  · split at h
    · cases h
    · rename_i h2
      simpa using h2
/-- what a sending ends in -/
structure SentD (d:Db) (g:Int→Int) (P:Prt) (x:Fr) (lv:Int) (s:Dl × Bk × Int):Prop where
  bk:s.2.1=⟨lv,2,3⟩∨(s.2.1=⟨lv - 1,2,3⟩∧grpE x.dst=true∧0 < lv)
  res:(s.2.2≠0∧s.1=zDl)∨(s.2.2=0∧(s.2.1=⟨lv,2,3⟩→grpE x.dst=false)∧∃ q lk m,q∈allP d∧q.id≠P.id∧s.1=⟨q.id,lk,⟨m,x.src,x.vl,x.ty,x.data⟩⟩∧m∈q.macs∧x.src∈P.macs∧chqV (ruleOf g 2 3 P) x=0∧lk.length≤1000)
theorem DbFine.sent {l:List Int} {d:Db} (h:DbFine l d) {g:Int→Int} {bs:List Bd} (hp:List.Perm bs (bdsOf (allP d))) {fb:Fab} (hf:FabS fb) {P:Prt} (hP:P∈allP d) (x:Fr) (lv:Int):SentD d g P x lv (fwdF ((allP d).map (ruleOf g 2 3)) bs fb ⟨lv,2,3⟩ P.id x):=by
  have hr:ruleF ((allP d).map (ruleOf g 2 3)) P.id=some (ruleOf g 2 3 P):=rule_first hP fun q hq e=>h.ids hP hq e
  have hlen:=fun w=>@wayF_len1 fb (ruleD ((allP d).map (ruleOf g 2 3)) P.id).sw (ruleD ((allP d).map (ruleOf g 2 3)) (dlvF ((allP d).map (ruleOf g 2 3)) bs P.id x).1).sw (hashF (x.src++(dlvF ((allP d).map (ruleOf g 2 3)) bs P.id x).2.1.dst)) w hf
  have hD:ruleD ((allP d).map (ruleOf g 2 3)) P.id=ruleOf g 2 3 P:=by unfold ruleD;rw [hr];rfl
  have hdl:(dlvF ((allP d).map (ruleOf g 2 3)) bs P.id x).2.2=0→∃ q m,q∈allP d∧q.id≠P.id∧dlvF ((allP d).map (ruleOf g 2 3)) bs P.id x=(q.id,⟨m,x.src,x.vl,x.ty,x.data⟩,0)∧m∈q.macs:=by
    intro h0
    unfold dlvF at h0 ⊢
    split at h0
    · cases h0
    · rename_i hc
      rw [if_neg hc]
      have hok:(tgtF ((allP d).map (ruleOf g 2 3)) bs x).2.2=true:=by
        cases ho:(tgtF ((allP d).map (ruleOf g 2 3)) bs x).2.2
        · exact absurd (.inl ho) hc
        · rfl
      obtain ⟨q,hq,e1,e2,_⟩:=h.reach hp hok
      refine ⟨q,_,hq,fun e=>hc (.inr (e1.trans e)),?_,e2⟩
      rw [e1]
  unfold fwdW at *
  unfold fwdF fwdB fwdW
  rw [hr]
  rw [hD] at hlen ⊢
  generalize dlvF ((allP d).map (ruleOf g 2 3)) bs P.id x=dl at *
  dsimp only
  by_cases hv:chqV (ruleOf g 2 3 P) x=0
  case neg =>
    have k:(chqV (ruleOf g 2 3 P) x != 0)=true:=by simpa using hv
    rw [k]
    exact ⟨.inl rfl,.inl ⟨hv,rfl⟩⟩
  case pos =>
    have k:(chqV (ruleOf g 2 3 P) x != 0)=false:=by simpa using hv
    have hown:x.src∈P.macs:=chq_own hv
    rw [k]
    cases gr:grpE x.dst
    case false =>
      by_cases h0:dl.2.2=0
      · obtain ⟨q,m,q1,q2,q3,q4⟩:=hdl h0
        subst q3
        have k2:((0:Int) != 0)=false:=rfl
        cases hw:wayF fb (ruleOf g 2 3 P).sw (ruleD ((allP d).map (ruleOf g 2 3)) q.id).sw (hashF (x.src++m)) with
        | none=>simp only;exact ⟨.inl rfl,.inl ⟨(by decide:(14:Int)≠0),rfl⟩⟩
        | some lk=>simp only;exact ⟨.inl rfl,.inr ⟨rfl,fun _=>gr,q,lk,m,q1,q2,rfl,q4,hown,hv,hlen lk hw⟩⟩
      · have k2:(dl.2.2 != 0)=true:=by simpa using h0
        rw [k2]
        exact ⟨.inl rfl,.inl ⟨h0,rfl⟩⟩
    case true =>
      by_cases hl:lv≤0
      · have k3:decide (lv≤0)=true:=decide_eq_true hl
        rw [k3]
        exact ⟨.inl rfl,.inl ⟨(by decide:(12:Int)≠0),rfl⟩⟩
      · have k3:decide (lv≤0)=false:=decide_eq_false hl
        rw [k3]
        by_cases h0:dl.2.2=0
        · obtain ⟨q,m,q1,q2,q3,q4⟩:=hdl h0
          subst q3
          cases hw:wayF fb (ruleOf g 2 3 P).sw (ruleD ((allP d).map (ruleOf g 2 3)) q.id).sw (hashF (x.src++m)) with
          | none=>simp only;exact ⟨.inr ⟨rfl,gr,by omega⟩,.inl ⟨(by decide:(14:Int)≠0),rfl⟩⟩
          | some lk=>simp only;exact ⟨.inr ⟨rfl,gr,by omega⟩,.inr ⟨rfl,fun e=>(by have:=congrArg Bk.lv e;dsimp only at this;simp at this;omega),q,lk,m,q1,q2,rfl,q4,hown,hv,hlen lk hw⟩⟩
        · have k2:(dl.2.2 != 0)=true:=by simpa using h0
          rw [k2]
          exact ⟨.inr ⟨rfl,gr,by omega⟩,.inl ⟨h0,rfl⟩⟩
set_option maxHeartbeats 8000000 in
theorem belongs14_law (l:List Int) (level:Int) (hl:l.length≤9223372036854775807):AFn Tryz.prog 4 0 [.isl (l.map fun z=>.base (.int .i64 z)) l.length,.base (.int .i64 level)] mt (.base (.bool true)) mt:=by
  refine AFn.eq Tryz.func4 rfl rfl (Nat.le_of_ble_eq_true rfl) ?_
  have hawk:=awake14_any
  have hnew:=new_any l
  obtain ⟨_,_,hset,ld,d,g,bs,j,f,fb,a1,hj,⟨hfine,hperm,hmo,hfy,hfok⟩,rfl,rfl⟩:=setting14_any l 0 hl
  have htab:=hfine.tables g 2 3 hperm hmo
  have hlen:=hfine.len
  have hrok:=hfine.rok g 2 3
  have hrn:((allP d).map (ruleOf g 2 3)).length≤1000:=by rw [List.length_map];omega
  have hfx:=hfy.x
  have hfs:FabS fb:=FabOK.s hfok.sw7 hfok.nlinks hfok.dead
  have hPm:(allP d)[j]∈allP d:=List.getElem_mem hj
  have hm1:=mod_any level 4 (by decide) (by decide)
  have hbk:BkOk ⟨level % 4,2,3⟩:=⟨by dsimp only;omega,by dsimp only;decide,by dsimp only;decide⟩
  have hlv:0≤level % 4∧level % 4 < 4:=by omega
  have hse:=sendE_any ((allP d).map (ruleOf g 2 3)) bs fb ⟨level % 4,2,3⟩ (allP d)[j].id f hrn hrok htab hfs hfok.ends hbk hfx (hfine.full hperm _ _)
  have hsent:=hfine.sent (g:=g) hperm hfs hPm f (level % 4)
  have hru:=fun p=>ruleX_any ((allP d).map (ruleOf g 2 3)) p hrn hrok
  have hrf:=fun (q:Prt) (hq:q∈allP d)=>rule_first (g:=g) hq fun y hy e=>hfine.ids hq hy e
  have hwh:=fun (m:List Int) (hm:m.length=6)=>whereX_any ((allP d).map (ruleOf g 2 3)) m hm htab.rl htab.rm
  have hwf:=fun (q:Prt) (m:List Int) (hq:q∈allP d) (hm:m∈q.macs)=>where_first (g:=g) (m:=m) hq hm fun y hy e=>hfine.one hy hq e hm
  have hck:=fchE_any (ruleOf g 2 3 (allP d)[j]) (RlOk.g (hrok _ (List.mem_map.2 ⟨_,hPm,rfl⟩))) f hfx
  have hgr:=grpX_any f hfx
  have hpok:∀ p,p∈allP d→PrtOk p:=fun p hp=>by
    obtain ⟨i,hi,rfl⟩:=List.getElem_of_mem hp
    exact (hfine.good i hi).ok (by omega) (by omega)
  generalize hPg:(allP d)[j]=P at *
  generalize (allP d).map (ruleOf g 2 3)=rs at *
  obtain ⟨hb,hres⟩:=hsent
  unfold fwdV at hse
  generalize fwdF rs bs fb ⟨level % 4,2,3⟩ P.id f=s at *
  obtain ⟨u,bk2,v⟩:=s
  dsimp only at hse hb hres
  generalize level % 4=lv at *
  obtain ⟨fsw,flk,fdn,fdd⟩:=fb
  obtain ⟨fd,fs,fv,ft,fx⟩:=f
  have h3:=hfx.ok.d6
  have h4:=hfx.ok.s6
  clear hPg
  clear hfx hfy hmo htab hrok hrn hfok hfs hbk hperm hj hlen
  dsimp only at h3 h4 hres hgr hb
  obtain ⟨d0,d1,d2,d3,d4,d5,rfl⟩:=six_of h3
  obtain ⟨s0,s1,s2,s3,s4,s5,rfl⟩:=six_of h4
  have ks:((strOfNums fx).toList == (strOfNums fx).toList)=true:=by simp
  unfold ruleOf at hset hck
  refine Wq (qW 0 1 rfl (qA rfl (Nl (Wq (qW 5 22 rfl (qM rfl (Od rfl rfl (CN (fr:=[]) rfl rfl (hnew) fok16 (.cons rfl (.pure rfl) .nil) rfl (by decide)) (Od rfl rfl (C1 (fr:=[]) rfl rfl (hset) fok15 (.own rfl rfl .nil) rfl rfl rfl (Cn _ _) (by decide) rfl) (qM rfl (qX rfl (qX rfl (qX rfl (qX rfl (qX rfl (qB rfl ty35 (qB rfl ty39 (qB rfl ty26 (qA rfl (qA rfl (qS rfl ty35 (Sl rfl) rfl (qS rfl ty39 (Sl rfl) rfl (qS rfl ty26 (Sl rfl) rfl (Nl (Wq (qW 26 31 rfl (qM rfl (qY rfl (hm1) fok17 rfl (Od rfl rfl (Bs rfl ty46 (.cons rfl rfl rfl rfl (Sl rfl) (.cons rfl rfl rfl rfl (Sl rfl) (.cons rfl rfl rfl rfl (Sl rfl) .nil)))) (qB rfl ty46 (qS rfl ty46 (Sl rfl) rfl (Nl ?_)))))))))))))))))))))))))))))))
  rcases hres with ⟨hv,rfl⟩|⟨rfl,_,q,lk,m,q1,q2,rfl,q4,q5,q6,q7⟩
  case' inl =>
    have kv:(v != 0)=true:=by simpa using hv
  case' inr =>
    have m6:m.length=6:=((hpok q q1).macs m q4).1
    obtain ⟨m0,m1,m2,m3,m4,m5,rfl⟩:=six_of m6
  all_goals
    rcases hb with rfl|⟨rfl,hgr1,hpos⟩
    case' inl =>
      repeat (refine W.seq ?_)
      refine Wd 35 54 (by decide) rfl mixed rfl (qM rfl (qM rfl (qY rfl (lan4_any) fok19 rfl (qY rfl (lan6_any) fok20 rfl (qG rfl ty35 rfl (Tl rfl) (qG rfl ty46 rfl (Tl rfl) (qF rfl ty39 rfl (qL rfl ty3 rfl (qG rfl ty26 rfl (Tl rfl) (Od rfl rfl (C0 (fr:=[]) rfl rfl (hse) fok18 (.cons rfl (.pure rfl) (.cons rfl (.pure rfl) (.cons rfl (.pure rfl) (.cons rfl (.pure rfl) (.cons rfl (.pure rfl) (.cons rfl (.pure rfl) (.cons rfl (.pure rfl) (.cons rfl (.pure rfl) .nil)))))))) rfl) (qM rfl (qX rfl (qX rfl (qX rfl (qB rfl ty49 (qB rfl ty46 (qS rfl ty49 (Sl rfl) rfl (qS rfl ty46 (Sl rfl) rfl (qA rfl (Nl ⟨by kernel_rfl,?_⟩))))))))))))))))))))
      repeat (refine W.seq ?_)
      refine qW 58 64 rfl (qF rfl ty46 rfl (qL rfl ty3 rfl (qF rfl ty46 rfl (qL rfl ty3 rfl (Od rfl rfl (LO.sub rfl rfl rfl) (qA rfl (Nl ?_)))))))
      rw [show lv - lv=0 from by omega]
      repeat (refine W.seq ?_)
      refine qW 68 94 rfl (qM rfl (qK rfl (qM rfl (qU rfl rfl rfl (Mv rfl rfl) (qU rfl rfl rfl (Gt0 rfl rfl rfl) (qP rfl rfl rfl (qM rfl (qU rfl rfl rfl (Mv rfl rfl) (qU rfl rfl rfl (Eq0 rfl rfl rfl) (qU rfl rfl rfl (Mv rfl rfl) (qD rfl rfl rfl (qD rfl rfl rfl (qD rfl rfl rfl (qD rfl rfl rfl (qU rfl rfl rfl (Pf0 rfl rfl rfl rfl) (qP rfl rfl rfl (qM rfl (qU rfl rfl rfl (Fa rfl rfl ty46 rfl (by decide)) (qU rfl rfl rfl (Ld rfl rfl rfl rfl ty3 rfl) (qU rfl rfl rfl (Ne0 rfl rfl rfl) (qP rfl rfl rfl (qM rfl (qU rfl rfl rfl (Fa rfl rfl ty46 rfl (by decide)) (qU rfl rfl rfl (Ld rfl rfl rfl rfl ty3 rfl) (qU rfl rfl rfl (Ne0 rfl rfl rfl) (qP rfl rfl rfl (Nl (Wo rfl rfl (Wu ?_)))))))))))))))))))))))))))))
    case' inr =>
      rw [hgr1] at hgr
      repeat (refine W.seq ?_)
      refine Wd 35 54 (by decide) rfl mixed rfl (qM rfl (qM rfl (qY rfl (lan4_any) fok19 rfl (qY rfl (lan6_any) fok20 rfl (qG rfl ty35 rfl (Tl rfl) (qG rfl ty46 rfl (Tl rfl) (qF rfl ty39 rfl (qL rfl ty3 rfl (qG rfl ty26 rfl (Tl rfl) (Od rfl rfl (C0 (fr:=[]) rfl rfl (hse) fok18 (.cons rfl (.pure rfl) (.cons rfl (.pure rfl) (.cons rfl (.pure rfl) (.cons rfl (.pure rfl) (.cons rfl (.pure rfl) (.cons rfl (.pure rfl) (.cons rfl (.pure rfl) (.cons rfl (.pure rfl) .nil)))))))) rfl) (qM rfl (qX rfl (qX rfl (qX rfl (qB rfl ty49 (qB rfl ty46 (qS rfl ty49 (Sl rfl) rfl (qS rfl ty46 (Sl rfl) rfl (qA rfl (Nl ⟨by kernel_rfl,?_⟩))))))))))))))))))))
      repeat (refine W.seq ?_)
      refine qW 58 64 rfl (qF rfl ty46 rfl (qL rfl ty3 rfl (qF rfl ty46 rfl (qL rfl ty3 rfl (Od rfl rfl (LO.sub rfl rfl rfl) (qA rfl (Nl ?_)))))))
      rw [show lv - (lv - 1)=1 from by omega]
      repeat (refine W.seq ?_)
      refine qW 68 94 rfl (qM rfl (qK rfl (qM rfl (qU rfl rfl rfl (Mv rfl rfl) (qU rfl rfl rfl (Gt0 rfl rfl rfl) (qP rfl rfl rfl (qM rfl (qU rfl rfl rfl (Mv rfl rfl) (qU rfl rfl rfl (Eq0 rfl rfl rfl) (qU rfl rfl rfl (Mv rfl rfl) (qU rfl rfl rfl (Fa rfl rfl ty26 rfl (by decide)) (qU rfl rfl rfl (La rfl rfl rfl ty23 rfl (Tl rfl)) (qU rfl rfl rfl (C0 (fr:=[]) rfl rfl (hgr) fok23 (.cons rfl (.pure rfl) .nil) rfl) (qU rfl rfl rfl (Nt rfl rfl) (qU rfl rfl rfl (Pt rfl rfl rfl rfl) (qP rfl rfl rfl (qM rfl (qU rfl rfl rfl (Fa rfl rfl ty46 rfl (by decide)) (qU rfl rfl rfl (Ld rfl rfl rfl rfl ty3 rfl) (qU rfl rfl rfl (Ne0 rfl rfl rfl) (qP rfl rfl rfl (qM rfl (qU rfl rfl rfl (Fa rfl rfl ty46 rfl (by decide)) (qU rfl rfl rfl (Ld rfl rfl rfl rfl ty3 rfl) (qU rfl rfl rfl (Ne0 rfl rfl rfl) (qP rfl rfl rfl (Nl (Wo rfl rfl (Wu ?_)))))))))))))))))))))))))))))
  case' inl.inl =>
    refine Wq (Wq (qW 103 105 rfl (qM rfl (qN rfl (Nl (Wt rfl ‹_› (Wq (qW 109 122 rfl (qF rfl ty49 rfl (qL rfl ty3 rfl (qE rfl (qM rfl (qU rfl rfl rfl (Fa rfl rfl ty49 rfl (by decide)) (qU rfl rfl rfl (Ld rfl rfl rfl rfl ty27 rfl) (qU rfl rfl rfl (Ln rfl rfl rfl ty27) (qU rfl rfl rfl (Eq0 rfl rfl rfl) (qT rfl rfl rfl (qM rfl (qU rfl rfl rfl (C0 (fr:=[]) rfl rfl (hawk) fok14 .nil rfl) (qT rfl rfl rfl (qA rfl (Nl (Wz ⟨.inl rfl,_,mt,Rc (Rt rfl) (Rv),aM,?_⟩)))))))))))))))))))))))
    exact ⟨rfl,rfl⟩
  case' inl.inr =>
    refine Wq (Wq (qW 103 105 rfl (qM rfl (qN rfl (Nl (Wt rfl ‹_› (Wq (qW 109 122 rfl (qF rfl ty49 rfl (qL rfl ty3 rfl (qE rfl (qM rfl (qU rfl rfl rfl (Fa rfl rfl ty49 rfl (by decide)) (qU rfl rfl rfl (Ld rfl rfl rfl rfl ty27 rfl) (qU rfl rfl rfl (Ln rfl rfl rfl ty27) (qU rfl rfl rfl (Eq0 rfl rfl rfl) (qT rfl rfl rfl (qM rfl (qU rfl rfl rfl (C0 (fr:=[]) rfl rfl (hawk) fok14 .nil rfl) (qT rfl rfl rfl (qA rfl (Nl (Wz ⟨.inl rfl,_,mt,Rc (Rt rfl) (Rv),aM,?_⟩)))))))))))))))))))))))
    exact ⟨rfl,rfl⟩
  all_goals
    have r1:=hru q.id
    unfold ruleV ruleD at r1
    rw [hrf q q1] at r1
    dsimp only [Option.getD_some,Option.isSome_some] at r1
    have w1:=hwh [m0,m1,m2,m3,m4,m5] rfl
    unfold whereV at w1
    rw [hwf q _ q1 q4] at w1
    have w2:=hwh [s0,s1,s2,s3,s4,s5] rfl
    unfold whereV at w2
    rw [hwf P _ hPm q5] at w2
    dsimp only at w1 w2
    unfold ruleOf at r1 w1 w2 q6
    rw [q6] at hck
    have e1:(q.id == q.id)=true:=by simp
    have e2:(P.id == P.id)=true:=by simp
    have e3:(q.id != P.id)=true:=by simpa using q2
    repeat (refine W.seq ?_)
    refine qW 103 105 rfl (qM rfl (qN rfl (Nl (Wo rfl (rfl) (Wu ?_)))))
    repeat (refine W.seq ?_)
    refine qW 126 136 rfl (qM rfl (qF rfl ty49 rfl (qL rfl ty3 rfl (qY rfl (r1) fok24 rfl (qM rfl (qX rfl (qX rfl (qB rfl ty39 (qS rfl ty39 (Sl rfl) rfl (qA rfl (Nl ?_)))))))))))
    repeat (refine W.seq ?_)
    refine qW 140 150 rfl (qM rfl (qF rfl ty49 rfl (qF rfl ty26 rfl (qG rfl ty23 rfl (Tl rfl) (qY rfl (w1) fok25 rfl (qM rfl (qX rfl (qX rfl (qA rfl (qA rfl (Nl ?_)))))))))))
    repeat (refine W.seq ?_)
    refine qW 154 164 rfl (qM rfl (qF rfl ty49 rfl (qF rfl ty26 rfl (qG rfl ty23 rfl (Tl rfl) (qY rfl (w2) fok25 rfl (qM rfl (qX rfl (qX rfl (qA rfl (qA rfl (Nl ?_)))))))))))
    repeat (refine W.seq ?_)
    refine Wd 168 214 (by decide) rfl mixed rfl (qM rfl (qM rfl (qU rfl rfl rfl (Mv rfl rfl) (qT rfl rfl rfl (qM rfl (qU rfl rfl rfl (Mv rfl rfl) (qT rfl rfl rfl (qM rfl (qU rfl rfl rfl (Mv rfl rfl) (qU rfl rfl rfl (Fa rfl rfl ty39 rfl (by decide)) (qU rfl rfl rfl (Ld rfl rfl rfl rfl ty3 rfl) (qU rfl rfl rfl (Eq0 rfl rfl rfl) (qT rfl rfl rfl (qM rfl (qU rfl ‹_› rfl (Mv rfl rfl) (qU rfl ‹_› rfl (Fa rfl rfl ty39 rfl (by decide)) (qU rfl ‹_› rfl (Ld rfl rfl rfl rfl ty3 rfl) (qU rfl ‹_› rfl (Eq0 rfl rfl rfl) (qT rfl ‹_› rfl (qM rfl (qU rfl ‹_› rfl (Mv rfl rfl) (qU rfl ‹_› rfl (Mv rfl rfl) (qU rfl ‹_› rfl (Ne0 rfl rfl rfl) (qT rfl ‹_› rfl (qM rfl (qU rfl ‹_› rfl (Fa rfl rfl ty49 rfl (by decide)) (qU rfl ‹_› rfl (Fa rfl rfl ty26 rfl (by decide)) (qU rfl ‹_› rfl (Ld rfl rfl rfl rfl ty24 rfl) (qU rfl ‹_› rfl (LO.str (xs:=fx) rfl rfl Tryz.underlying24 Tryz.underlying5 Tryz.underlying9) (qU rfl ‹_› rfl (Fa rfl rfl ty26 rfl (by decide)) (qU rfl ‹_› rfl (Ld rfl rfl rfl rfl ty24 rfl) (qU rfl ‹_› rfl (LO.str (xs:=fx) rfl rfl Tryz.underlying24 Tryz.underlying5 Tryz.underlying9) (qU rfl ‹_› rfl (LO.eql_str rfl rfl rfl) (qT rfl ‹_› rfl (qM rfl (qU rfl ‹_› rfl (La rfl rfl rfl ty39 rfl (Tl rfl)) (qU rfl ‹_› rfl (C0 (fr:=[]) rfl rfl (lan4_any) fok19 .nil rfl) (qU rfl ‹_› rfl (C0 (fr:=[]) rfl rfl (lan6_any) fok20 .nil rfl) (qU rfl ‹_› rfl (La rfl rfl rfl ty26 rfl (Tl rfl)) (qU rfl ‹_› rfl (C0 (fr:=[]) rfl rfl (hck) fok26 (.cons rfl (.pure rfl) (.cons rfl (.pure rfl) (.cons rfl (.pure rfl) (.cons rfl (.pure rfl) .nil)))) rfl) (qU rfl ‹_› rfl (Eq0 rfl rfl rfl) (qT rfl ‹_› rfl (qM rfl (qU rfl rfl rfl (C0 (fr:=[]) rfl rfl (hawk) fok14 .nil rfl) (qT rfl rfl rfl (qA rfl (Nl ⟨by kernel_rfl,(Wz ⟨.inl rfl,_,mt,Rc (Rt rfl) (Rv),aM,?_⟩)⟩)))))))))))))))))))))))))))))))))))))))))))))))
    exact ⟨rfl,rfl⟩
end Go.Proofs.YtlcndmciognneaaGreatDoor
