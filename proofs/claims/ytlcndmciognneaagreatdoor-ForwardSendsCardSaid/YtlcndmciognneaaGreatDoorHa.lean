/-
  The way between two switches: both texts.
-/
import Derived.Test.YtlcndmciognneaaGreatDoorGb
import Derived.Test.YtlcndmciognneaaGreatDoorMab
namespace Go.Proofs.YtlcndmciognneaaGreatDoor
open Go.RowKit
def otherF (l:Lnk) (at_:Int):Int × Bool:=if at_=l.a then (l.b,true) else if at_=l.b then (l.a,true) else (0,false)
def stepB (f:Fab) (d:List Int) (at_:Int) (i:Nat):Option (Int × Int):=match f.links[i]? with
 | none=>none
 | some l=>if (otherF l at_).2=true∧wkF f i=true∧0≤gI d at_∧gI d (otherF l at_).1=gI d at_ - 1 then some ((i:Int),(otherF l at_).1) else none
def stepsK (f:Fab) (d:List Int) (at_:Int) (k:Nat):List (Int × Int):=(List.range k).filterMap (stepB f d at_)
def optL {α:Type}:Option α→List α
 | none=>[]
 | some a=>[a]
theorem stepsK_succ (f:Fab) (d:List Int) (at_:Int) (k:Nat):stepsK f d at_ (k + 1)=stepsK f d at_ k++optL (stepB f d at_ k):=by
 unfold stepsK
 rw [List.range_succ,List.filterMap_append]
 cases h:stepB f d at_ k<;>simp [h,optL]
theorem stepsK_len (f:Fab) (d:List Int) (at_:Int) (k:Nat):(stepsK f d at_ k).length≤k:=by
 unfold stepsK
 exact Nat.le_trans (List.length_filterMap_le _ _) (by simp)
def fstL (l:List (Int × Int)):List Int:=l.map (·.1)
def sndL (l:List (Int × Int)):List Int:=l.map (·.2)
def pickN (h:Int) (n:Nat):Nat:=((if 0 < h then h else 0) % (n:Int)).toNat
def wayL (f:Fab) (d:List Int) (h:Int):Nat→Int→List Int
 | 0,_=>[]
 | m + 1,at_=>gI (fstL (stepsK f d at_ f.links.length)) (pickN h (stepsK f d at_ f.links.length).length)::wayL f d h m (gI (sndL (stepsK f d at_ f.links.length)) (pickN h (stepsK f d at_ f.links.length).length))
def wayF (f:Fab) (frm to h:Int):Option (List Int):=if 0≤gI (dist f to) frm then some (wayL f (dist f to) h (gI (dist f to) frm).toNat frm) else none
def wayV (w:Option (List Int)):AV:=.tup [intsV (w.getD []),.base (.bool w.isSome)]
theorem pickN_lt (h:Int) {n:Nat} (hn:0 < n):pickN h n < n:=by
 unfold pickN
 have h1:(if 0 < h then h else 0) % (n:Int) < n:=Int.emod_lt_of_pos _ (by omega)
 have h2:0≤(if 0 < h then h else 0) % (n:Int):=Int.emod_nonneg _ (by omega)
 omega
theorem pickN_eq (h:Int) {n:Nat} (hn:0 < n):(if 0 < h then h else 0) % (n:Int)=(pickN h n:Nat):=by
 unfold pickN
 have h2:0≤(if 0 < h then h else 0) % (n:Int):=Int.emod_nonneg _ (by omega)
 omega
theorem gI_range {d:List Int} {x:Int} (h:0≤gI d x):0≤x∧x < d.length:=by
 rcases Int.lt_or_le x 0 with h1|h1
 ·rw [gI_out (.inl h1)] at h;omega
 ·rcases Int.lt_or_le x d.length with h2|h2
  ·exact ⟨h1,h2⟩
  ·rw [gI_out (.inr h2)] at h;omega
theorem stepsK_mem {f:Fab} {d:List Int} {at_:Int} {k:Nat} {p:Int × Int} (h:p∈stepsK f d at_ k):∃ i l,i < k∧f.links[i]?=some l∧p=((i:Int),(otherF l at_).1)∧(otherF l at_).2=true∧wkF f i=true∧0≤gI d at_∧gI d (otherF l at_).1=gI d at_ - 1:=by
 unfold stepsK at h
 rw [List.mem_filterMap] at h
 obtain ⟨i,hi,h⟩:=h
 unfold stepB at h
 cases hl:f.links[i]? with
 | none=>rw [hl] at h;cases h
 | some l =>
  rw [hl] at h
  dsimp only at h
  split at h
  ·rename_i hc
   injection h with h
   exact ⟨i,l,by simpa using hi,hl,h.symm,hc⟩
  ·cases h
theorem steps_ne {f:Fab} {to at_:Int} (h:0 < gI (dist f to) at_):stepsK f (dist f to) at_ f.links.length≠[]:=by
 obtain ⟨y,⟨i,l,hl,hW,h3⟩,h1⟩:=(dist_ok (dist_alive (f:=f) (t:=to) (x:=at_) (by omega))).pred at_ h
 have hi:i < f.links.length:=(List.getElem?_eq_some_iff.1 hl).1
 have hb:stepB f (dist f to) at_ i≠none:=by
  unfold stepB
  rw [hl]
  dsimp only
  have ho:(otherF l at_).2=true∧gI (dist f to) (otherF l at_).1=gI (dist f to) at_ - 1:=by
   unfold otherF
   rcases h3 with ⟨h3,h4⟩|⟨h3,h4⟩
   ·rw [if_pos h3.symm];exact ⟨rfl,by rw [h4];exact h1⟩
   ·by_cases e:at_=l.a
    ·rw [if_pos e]
     have:l.b=l.a:=by rw [h3,e]
     refine ⟨rfl,?_⟩
     rw [show l.b=y from by rw [this,h4]];exact h1
    ·rw [if_neg e,if_pos h3.symm];exact ⟨rfl,by rw [h4];exact h1⟩
  rw [if_pos ⟨ho.1,hW,by omega,ho.2⟩]
  exact fun h=>by cases h
 intro he
 cases hs:stepB f (dist f to) at_ i with
 | none=>exact hb hs
 | some p =>
  have:p∈stepsK f (dist f to) at_ f.links.length:=by
   unfold stepsK
   exact List.mem_filterMap.2 ⟨i,by simpa using hi,hs⟩
  rw [he] at this;cases this
theorem other_any (l:Lnk) (at_:Int):AFn Tryz.prog 87 0 [.agg (lnkC l),.base (.int .i64 at_)] mt (.tup [.base (.int .i64 (otherF l at_).1),.base (.bool (otherF l at_).2)]) mt:=by
 refine AFn.eq Tryz.func87 rfl rfl (Nat.le_of_ble_eq_true rfl) ?_
 unfold lnkC
 refine Wq<|qW 0 3 rfl<|qC rfl<|qA rfl<|qA rfl<|Nl<|Wq<|Wq<|qW 7 8 rfl<|qM rfl<|Nl<|Wb ?_
 by_cases e1:at_=l.a
 ·have g1:(at_ == l.a)=true:=by simpa using e1
  refine Wq<|qW 12 16 rfl<|qF rfl ty99 rfl<|qL rfl ty3 rfl<|qE rfl<|qA rfl<|Nl<|Wt rfl ‹_›<|Wq<|qW 20 24 rfl<|qF rfl ty99 rfl<|qL rfl ty3 rfl<|qA rfl<|qA rfl<|Nl<|Wz ⟨.inl rfl,_,mt,Rc (Rt rfl) (Rc (Rt rfl) (Rv)),aM,?_⟩
  exact ⟨by unfold otherF;rw [if_pos e1];rfl,rfl⟩
 ·have g1:(at_ == l.a)=false:=by simpa using e1
  by_cases e2:at_=l.b
  ·have g2:(at_ == l.b)=true:=by simpa using e2
   refine Wq<|qW 12 16 rfl<|qF rfl ty99 rfl<|qL rfl ty3 rfl<|qE rfl<|qA rfl<|Nl<|Wo rfl ‹_›<|Wq<|qW 28 32 rfl<|qF rfl ty99 rfl<|qL rfl ty3 rfl<|qE rfl<|qA rfl<|Nl<|Wt rfl ‹_›<|Wq<|qW 36 40 rfl<|qF rfl ty99 rfl<|qL rfl ty3 rfl<|qA rfl<|qA rfl<|Nl<|Wz ⟨.inl rfl,_,mt,Rc (Rt rfl) (Rc (Rt rfl) (Rv)),aM,?_⟩
   exact ⟨by unfold otherF;rw [if_neg e1,if_pos e2];rfl,rfl⟩
  ·have g2:(at_ == l.b)=false:=by simpa using e2
   refine Wq<|qW 12 16 rfl<|qF rfl ty99 rfl<|qL rfl ty3 rfl<|qE rfl<|qA rfl<|Nl<|Wo rfl ‹_›<|Wq<|qW 28 32 rfl<|qF rfl ty99 rfl<|qL rfl ty3 rfl<|qE rfl<|qA rfl<|Nl<|Wo rfl ‹_›<|Wu<|Wq<|qW 44 46 rfl<|qA rfl<|qA rfl<|Nl<|Wz ⟨.inl rfl,_,mt,Rc (Rt rfl) (Rc (Rt rfl) (Rv)),aM,?_⟩
   exact ⟨by unfold otherF;rw [if_neg e1,if_neg e2];rfl,rfl⟩
def EndsIn (f:Fab):Prop:=∀ (i:Nat) (l:Lnk),f.links[i]?=some l→0≤l.a∧l.a < f.dead.length∧0≤l.b∧l.b < f.dead.length
theorem EndsIn.other {f:Fab} (h:EndsIn f) {i:Nat} {l:Lnk} (hl:f.links[i]?=some l) {at_:Int} (ho:(otherF l at_).2=true):0≤(otherF l at_).1∧(otherF l at_).1 < f.dead.length:=by
 obtain ⟨h1,h2,h3,h4⟩:=h i l hl
 unfold otherF at ho ⊢
 split
 ·exact ⟨h3,h4⟩
 ·split
  ·exact ⟨h1,h2⟩
  ·rw [if_neg (by assumption),if_neg (by assumption)] at ho;cases ho
theorem way_next {f:Fab} {to at_ h:Int} (hp:0 < gI (dist f to) at_) {L:List (Int × Int)} (hL:stepsK f (dist f to) at_ f.links.length=L):0 < L.length∧pickN h L.length < L.length∧gI (dist f to) (gI (sndL L) (pickN h L.length))=gI (dist f to) at_ - 1 ∧
 wayL f (dist f to) h (gI (dist f to) at_).toNat at_=gI (fstL L) (pickN h L.length)::wayL f (dist f to) h (gI (dist f to) (gI (sndL L) (pickN h L.length))).toNat (gI (sndL L) (pickN h L.length)):=by
 have hne:=steps_ne hp
 rw [hL] at hne
 have h0:0 < L.length:=List.length_pos_iff.2 hne
 have hk:=pickN_lt h h0
 obtain ⟨i,l,_,_,he,_,_,_,h5⟩:=stepsK_mem (f:=f) (d:=dist f to) (at_:=at_) (k:=f.links.length) (p:=L[pickN h L.length]) (by rw [hL];exact List.getElem_mem hk)
 have hs:gI (sndL L) (pickN h L.length)=(otherF l at_).1:=by
  rw [gI_at (by simpa [sndL] using hk)]
  simp [sndL,he]
 rw [hs,h5]
 refine ⟨h0,hk,rfl,?_⟩
 obtain ⟨m,hm⟩:∃ m:Nat,gI (dist f to) at_=(m:Int) + 1:=⟨(gI (dist f to) at_ - 1).toNat,by omega⟩
 rw [hm,show ((m:Int) + 1).toNat=m + 1 from by omega,show ((m:Int) + 1 - 1).toNat=m from by omega]
 show (_::_)=_
 rw [hL,hs]
set_option maxHeartbeats 1000000 in
theorem way_any (f:Fab) (hf:FabS f) (he:EndsIn f) (frm to h:Int):AFn Tryz.prog 44 0 [.agg (fabC f),.base (.int .i64 frm),.base (.int .i64 to),.base (.int .i64 h)] mt (wayV (wayF f frm to h)) mt:=by
 refine AFn.eq Tryz.func44 rfl rfl (Nat.le_of_ble_eq_true rfl) ?_
 have hds:=distances_isl f hf
 have hwk:=works_any f
 have hot:=other_any
 obtain ⟨hsw,h8,h24⟩:=hf
 have hdl:=dist_len f to
 have hlt:=fun x=>dist_lt f to x
 have hge:=fun x=>dist_ge f to x
 refine Wq<|qW 0 3 rfl<|qC rfl<|qA rfl<|qA rfl<|Nl<|Wq<|qW 7 11 rfl<|qG rfl ty35 rfl (Tl rfl)<|qM rfl<|qY rfl (hds _) fok86 rfl<|qA rfl<|Nl ?_
 obtain ⟨d,hd⟩:∃ d,dist f to=d:=⟨_,rfl⟩
 by_cases hfr:0≤gI (dist f to) frm
 ·obtain ⟨r0,r1⟩:=gI_range hfr
  rw [hdl] at r1
  have k1:decide (frm < 0)=false:=decide_eq_false (by omega)
  have k2:decide (frm ≥ (f.dead.length:Int))=false:=decide_eq_false (by omega)
  have k3:decide (gI (dist f to) frm < 0)=false:=decide_eq_false (by omega)
  have hv:wayF f frm to h=some (wayL f (dist f to) h (gI (dist f to) frm).toNat frm):=if_pos hfr
  have hal:=dist_alive hfr
  refine Wq<|Wq<|qW 15 30 rfl<|qM rfl<|qK rfl<|qM rfl<|gM rfl ‹_›<|gM rfl ‹_›<|gH rfl ‹_› ty27<|gGe rfl ‹_›<|qP rfl ‹_› rfl<|qM rfl<|gM rfl ‹_›<|gM rfl ‹_›<|qU rfl ‹_› rfl (Ii rfl rfl rfl rfl (Int.toNat_of_nonneg r0).symm ty27 ty3 (by omega))<|qU rfl ‹_› rfl (Li rfl rfl (gi_at1 r0 (by omega)) ty3 rfl)<|gK rfl ‹_›<|qP rfl ‹_› rfl<|Nl<|Wo rfl ‹_›<|Wu<|Wq<|qW 40 41 rfl<|qA rfl<|Nl<|W.name 41 (41 + 1) (t:=11) (sz:=1) rfl (by decide) (by decide)<|Wq<|Wq<|qW 45 47 rfl<|qM rfl<|qA rfl<|Nl<|Wb<|W.rename [(0,0),(1,41)] 2 (T':=up (up (up (up (up (up mt 2 (some (.base (.int .i64 to)))) 3 (some (.base (.int .i64 h)))) 4 (some (.own 0 0))) 10 (some (.isl (intsC (dist f to)) f.dead.length))) 11 (some (.osl 1 0 (([]:List Int)).length 1))) 12 (some (.base (.int .i64 frm)))) (H':=up (up mt 0 (some (fabC f))) 1 (some (intsC (([]:List Int))))) (by decide) ?_ ?_ ?_
  ·exact aU (lR rfl) (aU (lI rfl) (aU (lR rfl) (aU (lI rfl) (aU (lR rfl) (aU (lR rfl) aM)))))
  ·exact aU (kR rfl) (aU (kR rfl) aM)
  refine W.loop_ind (α:=Int × List Int) (fun x=>(gI (dist f to) x.1).toNat) 2 (fun x=>up (up (up (up (up (up mt 2 (some (.base (.int .i64 to)))) 3 (some (.base (.int .i64 h)))) 4 (some (.own 0 0))) 10 (some (.isl (intsC (dist f to)) f.dead.length))) 11 (some (.osl 1 0 x.2.length 1))) 12 (some (.base (.int .i64 x.1)))) (fun x=>up (up mt 0 (some (fabC f))) 1 (some (intsC x.2))) (fun x=>(0≤gI (dist f to) x.1∧x.2.length + (gI (dist f to) x.1).toNat≤8)∧wayF f frm to h=some (x.2++wayL f (dist f to) h (gI (dist f to) x.1).toNat x.1)) (frm,(([]:List Int))) (show (0≤gI (dist f to) frm∧(([]:List Int)).length + (gI (dist f to) frm).toNat≤8)∧wayF f frm to h=some ((([]:List Int))++wayL f (dist f to) h (gI (dist f to) frm).toNat frm) from ⟨⟨hfr,by have:=hlt frm (by omega);simp only [List.length_nil];omega⟩,hv⟩) ?_
  rintro ⟨at_,out⟩ hIA ihA
  try (dsimp only at hIA)
  try dsimp only
  obtain ⟨⟨hat,hol⟩,hw⟩:=hIA
  obtain ⟨q0,q1⟩:=gI_range hat
  rw [hdl] at q1
  by_cases eat:at_=to
  ·have g1:(at_ != to)=false:=by simpa using eat
   have hz:gI (dist f to) at_=0:=by rw [eat,dist_self hal]
   refine Wq<|Wq<|qW 51 54 rfl<|qM rfl<|qM rfl<|qN rfl<|Nl<|Wo rfl ‹_›<|Wx<|Wq<|qW 187 190 rfl<|qM rfl<|qA rfl<|qA rfl<|Nl<|Wy (t:=8) rfl rfl (ints_tk rfl) (intsC_pure _)<|Wz ⟨.inl rfl,_,mt,Rc (Rt rfl) (Rc (Rt rfl) (Rv)),aM,?_⟩
   refine ⟨?_,rfl⟩
   rw [hw,hz]
   show AV.tup [.isl (intsC out) out.length,.base (.bool true)]=wayV (some (out++[]))
   rw [List.append_nil];rfl
  ·have g1:(at_ != to)=true:=by simpa using eat
   have hpos:0 < gI (dist f to) at_:=by
    have:gI (dist f to) at_≠0:=fun h0=>eat ((dist_ok hal).zero _ h0)
    omega
   refine Wq<|Wq<|qW 51 54 rfl<|qM rfl<|qM rfl<|qN rfl<|Nl<|Wt rfl ‹_›<|Wu<|Wb<|Wq<|qW 58 60 rfl<|qA rfl<|qA rfl<|Nl<|W.name 60 (60 + 1) (t:=13) (sz:=1) rfl (by decide) (by decide)<|W.name (60 + 1) (60 + 2) (t:=14) (sz:=1) rfl (by decide) (by decide)<|Wq<|Wq<|qW 64 68 rfl<|qF rfl ty35 rfl<|qL rfl ty32 rfl<|qH rfl ty32<|qM rfl<|Nl<|Wb<|W.rename [(0,0),(1,1),(2,60),(3,(60 + 1))] 4 (T':=up (up (up (up (up (up (up (up (up (up (up mt 2 (some (.base (.int .i64 to)))) 3 (some (.base (.int .i64 h)))) 4 (some (.own 0 0))) 10 (some (.isl (intsC (dist f to)) f.dead.length))) 11 (some (.osl 1 0 out.length 1))) 12 (some (.base (.int .i64 at_)))) 13 (some (.osl 2 0 (([]:List (Int × Int))).length 1))) 14 (some (.osl 3 0 (([]:List (Int × Int))).length 1))) 43 (some (.isl (lnksC f.links) f.links.length))) 44 (some (.base (.int .i64 (f.links.length:Int))))) 45 (some (.base (.int .i64 (0:Int))))) (H':=up (up (up (up mt 0 (some (fabC f))) 1 (some (intsC out))) 2 (some (intsC (fstL (([]:List (Int × Int))))))) 3 (some (intsC (sndL (([]:List (Int × Int))))))) (by decide) ?_ ?_ ?_
   ·exact aU (lR rfl) (aU (lR rfl) (aU (lR rfl) (aU (lI rfl) (aU (lI rfl) (aU (lR rfl) (aU (lI rfl) (aU (lR rfl) (aU (lI rfl) (aU (lR rfl) (aU (lR rfl) aM))))))))))
   ·exact aU (kR rfl) (aU (kR rfl) (aU (kP rfl (intsC_pure _)) (aU (kR rfl) aM)))
   refine W.loop_ind (α:=Nat × List (Int × Int)) (fun x=>f.links.length - x.1) 4 (fun x=>up (up (up (up (up (up (up (up (up (up (up mt 2 (some (.base (.int .i64 to)))) 3 (some (.base (.int .i64 h)))) 4 (some (.own 0 0))) 10 (some (.isl (intsC (dist f to)) f.dead.length))) 11 (some (.osl 1 0 out.length 1))) 12 (some (.base (.int .i64 at_)))) 13 (some (.osl 2 0 x.2.length 1))) 14 (some (.osl 3 0 x.2.length 1))) 43 (some (.isl (lnksC f.links) f.links.length))) 44 (some (.base (.int .i64 (f.links.length:Int))))) 45 (some (.base (.int .i64 (x.1:Int))))) (fun x=>up (up (up (up mt 0 (some (fabC f))) 1 (some (intsC out))) 2 (some (intsC (fstL x.2)))) 3 (some (intsC (sndL x.2)))) (fun x=>x.1≤f.links.length∧stepsK f (dist f to) at_ x.1=x.2) (0,(([]:List (Int × Int)))) (show 0≤f.links.length∧stepsK f (dist f to) at_ 0=(([]:List (Int × Int))) from ⟨Nat.zero_le _,rfl⟩) ?_
   rintro ⟨i,L⟩ hIB ihB
   try (dsimp only at hIB)
   try dsimp only
   obtain ⟨hi,hL⟩:=hIB
   have hLl:L.length≤i:=by rw [← hL];exact stepsK_len _ _ _ _
   have hf1:(fstL L).length=L.length:=by simp [fstL]
   have hf2:(sndL L).length=L.length:=by simp [sndL]
   by_cases hc:i < f.links.length
   ·have g2:decide ((i:Int) < (f.links.length:Int))=true:=decide_eq_true (by omega)
    have hl2:f.links[i]?=some f.links[i]:=by simp [hc]
    have hnx:=stepsK_succ f (dist f to) at_ i
    rw [hL] at hnx
    have hEo:=fun ho=>he.other hl2 (at_:=at_) ho
    refine Wq<|qW 72 73 rfl<|qK rfl<|Nl<|Wq<|Wt rfl ‹_›<|Wu<|Wq<|Wb<|Wq<|qW 77 83 rfl<|qM rfl<|qJ rfl rfl ty32 ty99 (by omega)<|Od rfl rfl (Lg rfl rfl ty99 rfl (lnksC_tk hc))<|qB rfl ty99<|qA rfl<|qS rfl ty99 (Sl rfl) rfl<|Nl ?_
    obtain ⟨lk,hlk⟩:∃ lk,f.links[i]=lk:=⟨_,rfl⟩
    rw [hlk] at hl2 hEo ⊢
    have hsb:stepB f (dist f to) at_ i=if (otherF lk at_).2=true∧wkF f i=true∧0≤gI (dist f to) at_∧gI (dist f to) (otherF lk at_).1=gI (dist f to) at_ - 1 then some ((i:Int),(otherF lk at_).1) else none:=by
     unfold stepB;rw [hl2]
    have hotl:=hot lk at_
    obtain ⟨eo,heo⟩:∃ eo,otherF lk at_=eo:=⟨_,rfl⟩
    rw [heo] at hsb hEo hotl
    obtain ⟨e,ok⟩:=eo
    dsimp only at hsb hEo hotl
    refine Wq<|qW 87 95 rfl<|qG rfl ty99 rfl (Tl rfl)<|qM rfl<|qY rfl (hotl) fok87 rfl<|qM rfl<|qX rfl<|qX rfl<|qA rfl<|qA rfl<|Nl ?_
    cases ok with
    | false =>
     rw [if_neg (by simp)] at hsb
     rw [hsb] at hnx
     refine Wq<|Wd 99 123 (by decide) rfl mixed rfl<|qM rfl<|qM rfl<|qD rfl rfl rfl<|qD rfl rfl rfl<|qD rfl rfl rfl<|qD rfl rfl rfl<|qP rfl rfl rfl<|qM rfl<|qD rfl rfl rfl<|qD rfl rfl rfl<|qD rfl rfl rfl<|qP rfl rfl rfl<|qM rfl<|qD rfl rfl rfl<|qD rfl rfl rfl<|qD rfl rfl rfl<|qD rfl rfl rfl<|qD rfl rfl rfl<|qD rfl rfl rfl<|qD rfl rfl rfl<|qD rfl rfl rfl<|qD rfl rfl rfl<|qD rfl rfl rfl<|qP rfl rfl rfl<|Nl ⟨by kernel_rfl,(Wo rfl rfl<|Wu<|qW 141 143 rfl<|qZ rfl (iW _ (by omega))<|qM rfl<|Nl<|WL.rename [(0,0),(1,1),(2,2),(3,3)] 4 (by decide) ?_ ?_ (ihB ((i + 1),L) (show f.links.length - (i + 1) < f.links.length - i from by omega) (show (i + 1)≤f.links.length∧stepsK f (dist f to) at_ (i + 1)=L from ⟨by omega,by rw [hnx];exact List.append_nil _⟩)))⟩
     ·exact aU (lR rfl) (aU (lR rfl) (aU (lR rfl) (aU (lI rfl) (aU (lI rfl) (aU (lR rfl) (aU (lI rfl) (aU (lR rfl) (aU (lI rfl) (aU (lR rfl) (aU (lR rfl) aM))))))))))
     ·exact aU (kP rfl (intsC_pure _)) (aU (kP rfl (intsC_pure _)) (aU (kP rfl (intsC_pure _)) (aU (kR rfl) aM)))
    | true =>
     obtain ⟨x0,x1⟩:=hEo rfl
     have k1:decide (e < (f.dead.length:Int))=true:=decide_eq_true (by omega)
     cases hwi:worksB f i with
     | false =>
      rw [if_neg (by rw [show wkF f i=false from hwi];simp)] at hsb
      rw [hsb] at hnx
      refine Wq<|Wd 99 123 (by decide) rfl mixed rfl<|qM rfl<|qM rfl<|gM rfl rfl<|gM rfl rfl<|gH rfl rfl ty27<|gK rfl rfl<|qT rfl rfl rfl<|qM rfl<|gG rfl ‹_› ty35 rfl (Tl rfl)<|gM rfl ‹_›<|gY rfl ‹_› (hwk _) fok88 rfl<|qT rfl ‹_› rfl<|qM rfl<|qD rfl ‹_› rfl<|qD rfl ‹_› rfl<|qD rfl ‹_› rfl<|qD rfl ‹_› rfl<|qD rfl ‹_› rfl<|qD rfl ‹_› rfl<|qD rfl ‹_› rfl<|qD rfl ‹_› rfl<|qD rfl ‹_› rfl<|qD rfl ‹_› rfl<|qP rfl ‹_› rfl<|Nl ⟨by kernel_rfl,(Wo rfl rfl<|Wu<|qW 141 143 rfl<|qZ rfl (iW _ (by omega))<|qM rfl<|Nl<|WL.rename [(0,0),(1,1),(2,2),(3,3)] 4 (by decide) ?_ ?_ (ihB ((i + 1),L) (show f.links.length - (i + 1) < f.links.length - i from by omega) (show (i + 1)≤f.links.length∧stepsK f (dist f to) at_ (i + 1)=L from ⟨by omega,by rw [hnx];exact List.append_nil _⟩)))⟩
      ·exact aU (lR rfl) (aU (lR rfl) (aU (lR rfl) (aU (lI rfl) (aU (lI rfl) (aU (lR rfl) (aU (lI rfl) (aU (lR rfl) (aU (lI rfl) (aU (lR rfl) (aU (lR rfl) aM))))))))))
      ·exact aU (kP rfl (intsC_pure _)) (aU (kP rfl (intsC_pure _)) (aU (kP rfl (intsC_pure _)) (aU (kR rfl) aM)))
     | true =>
      have hla:=hlt at_ (by omega)
      by_cases ee:gI (dist f to) e=gI (dist f to) at_ - 1
      ·have k2:(gI (dist f to) e == gI (dist f to) at_ - 1)=true:=by simpa using ee
       rw [if_pos ⟨rfl,hwi,by omega,ee⟩] at hsb
       rw [hsb] at hnx
       refine Wq<|Wd 99 123 (by decide) rfl mixed rfl<|qM rfl<|qM rfl<|gM rfl rfl<|gM rfl rfl<|gH rfl rfl ty27<|gK rfl rfl<|qT rfl rfl rfl<|qM rfl<|gG rfl ‹_› ty35 rfl (Tl rfl)<|gM rfl ‹_›<|gY rfl ‹_› (hwk _) fok88 rfl<|qT rfl ‹_› rfl<|qM rfl<|gM rfl ‹_›<|gM rfl ‹_›<|qU rfl ‹_› rfl (Ii rfl rfl rfl rfl (Int.toNat_of_nonneg x0).symm ty27 ty3 (by omega))<|qU rfl ‹_› rfl (Li rfl rfl (gi_at1 x0 (by omega)) ty3 rfl)<|gM rfl ‹_›<|gM rfl ‹_›<|qU rfl ‹_› rfl (Ii rfl rfl rfl rfl (Int.toNat_of_nonneg q0).symm ty27 ty3 (by omega))<|qU rfl ‹_› rfl (Li rfl rfl (gi_at1 q0 (by omega)) ty3 rfl)<|qU rfl ‹_› rfl (LO.sub_in rfl rfl rfl (iW _ (by omega)))<|gE rfl ‹_›<|qT rfl ‹_› rfl<|Nl ⟨by kernel_rfl,(Wt rfl ‹_›<|qW 127 137 rfl<|qM rfl<|qM rfl<|Od rfl rfl (LO.buildSlice rfl ty27 ty3 (by decide) (by decide) (.cons rfl rfl rfl rfl (Sl rfl) .nil))<|Od rfl rfl (Lap rfl rfl (Sso rfl rfl (Tl rfl)) rfl (ints_tk hf1) ty27 ty27 ty3 (by decide) (by omega) (by omega) (by decide))<|qM rfl<|qM rfl<|Od rfl rfl (LO.buildSlice rfl ty27 ty3 (by decide) (by decide) (.cons rfl rfl rfl rfl (Sl rfl) .nil))<|Od rfl rfl (Lap rfl rfl (Sso rfl rfl (Tl rfl)) rfl (ints_tk hf2) ty27 ty27 ty3 (by decide) (by omega) (by omega) (by decide))<|qA rfl<|qA rfl<|Nl<|qW 141 143 rfl<|qZ rfl (iW _ (by omega))<|qM rfl<|Nl ?_)⟩
       rw [show intsC (fstL L)++[AV.base (.int .i64 (i:Int))]=intsC (fstL (L++[((i:Int),e)])) from by simp [intsC,fstL],show intsC (sndL L)++[AV.base (.int .i64 e)]=intsC (sndL (L++[((i:Int),e)])) from by simp [intsC,sndL],show L.length + 1=(L++[((i:Int),e)]).length from by simp]
       refine WL.rename [(0,0),(1,1),(2,130),(3,134)] 4 (by decide) ?_ ?_ (ihB ((i + 1),(L++[((i:Int),e)])) (show f.links.length - (i + 1) < f.links.length - i from by omega) (show (i + 1)≤f.links.length∧stepsK f (dist f to) at_ (i + 1)=(L++[((i:Int),e)]) from ⟨by omega,hnx⟩))
       ·exact aU (lR rfl) (aU (lR rfl) (aU (lR rfl) (aU (lI rfl) (aU (lI rfl) (aU (lR rfl) (aU (lI rfl) (aU (lR rfl) (aU (lI rfl) (aU (lR rfl) (aU (lR rfl) aM))))))))))
       ·exact aU (kP rfl (intsC_pure _)) (aU (kP rfl (intsC_pure _)) (aU (kP rfl (intsC_pure _)) (aU (kR rfl) aM)))
      ·have k2:(gI (dist f to) e == gI (dist f to) at_ - 1)=false:=by simpa using ee
       rw [if_neg (fun h=>ee h.2.2.2)] at hsb
       rw [hsb] at hnx
       refine Wq<|Wd 99 123 (by decide) rfl mixed rfl<|qM rfl<|qM rfl<|gM rfl rfl<|gM rfl rfl<|gH rfl rfl ty27<|gK rfl rfl<|qT rfl rfl rfl<|qM rfl<|gG rfl ‹_› ty35 rfl (Tl rfl)<|gM rfl ‹_›<|gY rfl ‹_› (hwk _) fok88 rfl<|qT rfl ‹_› rfl<|qM rfl<|gM rfl ‹_›<|gM rfl ‹_›<|qU rfl ‹_› rfl (Ii rfl rfl rfl rfl (Int.toNat_of_nonneg x0).symm ty27 ty3 (by omega))<|qU rfl ‹_› rfl (Li rfl rfl (gi_at1 x0 (by omega)) ty3 rfl)<|gM rfl ‹_›<|gM rfl ‹_›<|qU rfl ‹_› rfl (Ii rfl rfl rfl rfl (Int.toNat_of_nonneg q0).symm ty27 ty3 (by omega))<|qU rfl ‹_› rfl (Li rfl rfl (gi_at1 q0 (by omega)) ty3 rfl)<|qU rfl ‹_› rfl (LO.sub_in rfl rfl rfl (iW _ (by omega)))<|gE rfl ‹_›<|qT rfl ‹_› rfl<|Nl ⟨by kernel_rfl,(Wo rfl ‹_›<|Wu<|qW 141 143 rfl<|qZ rfl (iW _ (by omega))<|qM rfl<|Nl<|WL.rename [(0,0),(1,1),(2,2),(3,3)] 4 (by decide) ?_ ?_ (ihB ((i + 1),L) (show f.links.length - (i + 1) < f.links.length - i from by omega) (show (i + 1)≤f.links.length∧stepsK f (dist f to) at_ (i + 1)=L from ⟨by omega,by rw [hnx];exact List.append_nil _⟩)))⟩
       ·exact aU (lR rfl) (aU (lR rfl) (aU (lR rfl) (aU (lI rfl) (aU (lI rfl) (aU (lR rfl) (aU (lI rfl) (aU (lR rfl) (aU (lI rfl) (aU (lR rfl) (aU (lR rfl) aM))))))))))
       ·exact aU (kP rfl (intsC_pure _)) (aU (kP rfl (intsC_pure _)) (aU (kP rfl (intsC_pure _)) (aU (kR rfl) aM)))
   ·have g2:decide ((i:Int) < (f.links.length:Int))=false:=decide_eq_false (by omega)
    refine Wq<|qW 72 73 rfl<|qK rfl<|Nl<|Wq<|Wo rfl ‹_›<|Wx ?_
    obtain rfl:i=f.links.length:=by omega
    obtain ⟨h0,hk,hdn,hwn⟩:=way_next (h:=h) hpos hL
    have k1:((L.length:Int) == 0)=false:=by simp;exact fun h=>by rw [h] at h0;exact absurd h0 (by decide)
    obtain ⟨hn,hhn,hn0⟩:∃ hn:Int,(if 0 < h then h else 0)=hn∧0≤hn:=⟨_,rfl,by split<;>omega⟩
    have hpk:=pickN_eq h h0
    rw [hhn] at hpk
    obtain ⟨pk,hpke⟩:∃ pk,pickN h L.length=pk:=⟨_,rfl⟩
    rw [hpke] at hpk hk hdn hwn
    clear ihB
    refine Wq<|Wq<|qW 147 150 rfl<|qM rfl<|Od rfl rfl (LO.len rfl rfl ty27)<|qE rfl<|Nl<|Wo rfl ‹_›<|Wu<|Wq<|qW 160 166 rfl<|qM rfl<|Od rfl rfl (LO.max rfl rfl rfl) ?_
    rw [hhn]
    refine qM rfl<|Od rfl rfl (LO.len rfl rfl ty27)<|Od rfl rfl (LO.rem_in rfl rfl rfl (by omega) (by omega))<|qA rfl<|Nl ?_
    rw [hpk]
    refine Wd 170 183 (by decide) rfl mixed rfl<|qM rfl<|qM rfl<|qM rfl<|Od rfl rfl (Ia rfl rfl rfl rfl ty27 ty3 (by omega))<|Od rfl rfl (Ld rfl rfl rfl (ni_at (k:=pk) (by omega)) ty3 rfl)<|Od rfl rfl (LO.buildSlice rfl ty27 ty3 (by decide) (by decide) (.cons rfl rfl rfl rfl (Sl rfl) .nil))<|Od rfl rfl (Lap rfl rfl (Sso rfl rfl (Tl rfl)) rfl (ints_tk rfl) ty27 ty27 ty3 (by decide) (by omega) (by omega) (by decide))<|qM rfl<|qM rfl<|Od rfl rfl (Ia rfl rfl rfl rfl ty27 ty3 (by omega))<|Od rfl rfl (Ld rfl rfl rfl (ni_at (k:=pk) (by omega)) ty3 rfl)<|qA rfl<|qA rfl<|Nl ⟨by kernel_rfl,?_⟩
    rw [ints_snoc,show out.length + 1=(out++[gI (fstL L) pk]).length from by simp]
    refine WL.rename [(0,0),(1,176)] 2 (by decide) ?_ ?_ (ihA ((gI (sndL L) pk),(out++[gI (fstL L) pk])) (show (gI (dist f to) (gI (sndL L) pk)).toNat < (gI (dist f to) at_).toNat from by omega) (show (0≤gI (dist f to) (gI (sndL L) pk)∧(out++[gI (fstL L) pk]).length + (gI (dist f to) (gI (sndL L) pk)).toNat≤8)∧wayF f frm to h=some ((out++[gI (fstL L) pk])++wayL f (dist f to) h (gI (dist f to) (gI (sndL L) pk)).toNat (gI (sndL L) pk)) from ⟨⟨by omega,by simp only [List.length_append,List.length_singleton];omega⟩,by rw [hw,hwn,List.append_assoc];rfl⟩))
    ·exact aU (lR rfl) (aU (lI rfl) (aU (lR rfl) (aU (lI rfl) (aU (lR rfl) (aU (lR rfl) aM)))))
    ·exact aU (kP rfl (intsC_pure _)) (aU (kR rfl) aM)
 ·have hv:wayF f frm to h=none:=if_neg hfr
  have hcase:frm < 0∨(¬ frm < 0∧frm ≥ f.dead.length)∨(¬ frm < 0∧¬ frm ≥ f.dead.length):=by omega
  rcases hcase with c1|⟨c1,c2⟩|⟨c1,c2⟩
  case' inl =>
   have k1:decide (frm < 0)=true:=decide_eq_true c1
   refine Wq<|Wq<|qW 15 30 rfl<|qM rfl<|qK rfl<|qM rfl<|qD rfl ‹_› rfl<|qD rfl ‹_› rfl<|qD rfl ‹_› rfl<|qD rfl ‹_› rfl<|qT rfl ‹_› rfl<|qM rfl<|qD rfl rfl rfl<|qD rfl rfl rfl<|qD rfl rfl rfl<|qD rfl rfl rfl<|qD rfl rfl rfl<|qT rfl rfl rfl<|Nl ?_
  case' inr.inl =>
   have k1:decide (frm < 0)=false:=decide_eq_false c1
   have k2:decide (frm ≥ (f.dead.length:Int))=true:=decide_eq_true c2
   refine Wq<|Wq<|qW 15 30 rfl<|qM rfl<|qK rfl<|qM rfl<|gM rfl ‹_›<|gM rfl ‹_›<|gH rfl ‹_› ty27<|gGe rfl ‹_›<|qP rfl ‹_› rfl<|qM rfl<|qD rfl ‹_› rfl<|qD rfl ‹_› rfl<|qD rfl ‹_› rfl<|qD rfl ‹_› rfl<|qD rfl ‹_› rfl<|qT rfl ‹_› rfl<|Nl ?_
  case' inr.inr =>
   have k1:decide (frm < 0)=false:=decide_eq_false c1
   have k2:decide (frm ≥ (f.dead.length:Int))=false:=decide_eq_false c2
   have k3:decide (gI (dist f to) frm < 0)=true:=decide_eq_true (by omega)
   have r0:0≤frm:=by omega
   refine Wq<|Wq<|qW 15 30 rfl<|qM rfl<|qK rfl<|qM rfl<|gM rfl ‹_›<|gM rfl ‹_›<|gH rfl ‹_› ty27<|gGe rfl ‹_›<|qP rfl ‹_› rfl<|qM rfl<|gM rfl ‹_›<|gM rfl ‹_›<|qU rfl ‹_› rfl (Ii rfl rfl rfl rfl (Int.toNat_of_nonneg r0).symm ty27 ty3 (by omega))<|qU rfl ‹_› rfl (Li rfl rfl (gi_at1 r0 (by omega)) ty3 rfl)<|gK rfl ‹_›<|qP rfl ‹_› rfl<|Nl ?_
  all_goals
   refine Wt rfl (by first|rfl|assumption) ?_
   repeat (refine Wq ?_)
   refine qW 34 36 rfl<|qA rfl<|qA rfl<|Nl<|W.name 36 (36 + 1) (t:=8) (sz:=1) rfl (by decide) (by decide)<|Wy (t:=8) rfl rfl (Tl rfl) rfl<|Wz ⟨.inl rfl,_,mt,Rc (Rt rfl) (Rc (Rt rfl) (Rv)),aM,?_⟩
   exact ⟨by rw [hv];rfl,rfl⟩
end Go.Proofs.YtlcndmciognneaaGreatDoor
