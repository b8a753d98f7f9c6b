/-
  The way between two switches: both texts. The way between two switches: the document's text. The hash of two addresses; the example of chapter 14. FabricFails returns true. Chapter 14: the document's hash, addresses of stations, the example, ways by the program and by the document. Chapter 14: the loads of links, both texts. Sums of the loads of links (plain): each amount times the length of its way. Bytes, numbers of several bytes, addresses, check sums, packets: plain words and laws. Addresses and bytes as the abstract machine sees them; small functions of addresses and neighbours. The database of members as the abstract machine sees it; keys of its maps. Comparing structs and arrays of numbers. Small functions of databases: whether an address is none, all members in a row. The ports of a small database.
-/
import Derived.Test.YtdflnmfjpoodlaaGreatDoorGb
import Derived.Test.YtdflnmfjpoodlaaGreatDoorMab
import Derived.Test.YtdflnmfjpoodlaaGreatDoorLw
import Derived.Laws.Entries
import Derived.Laws.CopyOwn
import Derived.OpenShut
import Derived.DeepKeys
namespace Go.Proofs.YtdflnmfjpoodlaaGreatDoor
open Go.RowKit
def otherF (l:Lnk) (at_:Int):Int × Bool:=if at_=l.a then (l.b,true) else if at_=l.b then (l.a,true) else (0,false)
def stepB (f:Fab) (d:List Int) (at_:Int) (i:Nat):Option (Int × Int):=match f.links[i]? with
 | none=>none
 | some l=>if (otherF l at_).2=true∧wkF f i=true∧0≤gI d at_∧gI d (otherF l at_).1=gI d at_ - 1 then some ((i:Int),(otherF l at_).1) else none
def stepsK (f:Fab) (d:List Int) (at_:Int) (k:Nat):List (Int × Int):=(List.range k).filterMap (stepB f d at_)
def optL {α:Type}:Option α→List α
 | none=>[]
 | some a=>[a]
theorem stepsK_succ (f:Fab) (d:List Int) (at_:Int) (k:Nat):stepsK f d at_ (k + 1)=stepsK f d at_ k++optL (stepB f d at_ k):=by
 unfold stepsK
 rw [List.range_succ,List.filterMap_append]
 cases h:stepB f d at_ k<;>simp [h,optL]
theorem stepsK_len (f:Fab) (d:List Int) (at_:Int) (k:Nat):(stepsK f d at_ k).length≤k:=by
 unfold stepsK
 exact Nat.le_trans (List.length_filterMap_le _ _) (by simp)
def fstL (l:List (Int × Int)):List Int:=l.map (·.1)
def sndL (l:List (Int × Int)):List Int:=l.map (·.2)
def pickN (h:Int) (n:Nat):Nat:=((if 0 < h then h else 0) % (n:Int)).toNat
def wayL (f:Fab) (d:List Int) (h:Int):Nat→Int→List Int
 | 0,_=>[]
 | m + 1,at_=>gI (fstL (stepsK f d at_ f.links.length)) (pickN h (stepsK f d at_ f.links.length).length)::wayL f d h m (gI (sndL (stepsK f d at_ f.links.length)) (pickN h (stepsK f d at_ f.links.length).length))
def wayF (f:Fab) (frm to h:Int):Option (List Int):=if 0≤gI (dist f to) frm then some (wayL f (dist f to) h (gI (dist f to) frm).toNat frm) else none
def wayV (w:Option (List Int)):AV:=.tup [intsV (w.getD []),.base (.bool w.isSome)]
theorem pickN_lt (h:Int) {n:Nat} (hn:0 < n):pickN h n < n:=by
 unfold pickN
 have h1:(if 0 < h then h else 0) % (n:Int) < n:=Int.emod_lt_of_pos _ (by omega)
 have h2:0≤(if 0 < h then h else 0) % (n:Int):=Int.emod_nonneg _ (by omega)
 omega
theorem pickN_eq (h:Int) {n:Nat} (hn:0 < n):(if 0 < h then h else 0) % (n:Int)=(pickN h n:Nat):=by
 unfold pickN
 have h2:0≤(if 0 < h then h else 0) % (n:Int):=Int.emod_nonneg _ (by omega)
 omega
theorem gI_range {d:List Int} {x:Int} (h:0≤gI d x):0≤x∧x < d.length:=by
 rcases Int.lt_or_le x 0 with h1|h1
 ·rw [gI_out (.inl h1)] at h;omega
 ·rcases Int.lt_or_le x d.length with h2|h2
  ·exact ⟨h1,h2⟩
  ·rw [gI_out (.inr h2)] at h;omega
theorem stepsK_mem {f:Fab} {d:List Int} {at_:Int} {k:Nat} {p:Int × Int} (h:p∈stepsK f d at_ k):∃ i l,i < k∧f.links[i]?=some l∧p=((i:Int),(otherF l at_).1)∧(otherF l at_).2=true∧wkF f i=true∧0≤gI d at_∧gI d (otherF l at_).1=gI d at_ - 1:=by
 unfold stepsK at h
 rw [List.mem_filterMap] at h
 obtain ⟨i,hi,h⟩:=h
 unfold stepB at h
 cases hl:f.links[i]? with
 | none=>rw [hl] at h;cases h
 | some l =>
  rw [hl] at h
  dsimp only at h
  split at h
  ·rename_i hc
   injection h with h
   exact ⟨i,l,by simpa using hi,hl,h.symm,hc⟩
  ·cases h
theorem steps_ne {f:Fab} {to at_:Int} (h:0 < gI (dist f to) at_):stepsK f (dist f to) at_ f.links.length≠[]:=by
 obtain ⟨y,⟨i,l,hl,hW,h3⟩,h1⟩:=(dist_ok (dist_alive (f:=f) (t:=to) (x:=at_) (by omega))).pred at_ h
 have hi:i < f.links.length:=(List.getElem?_eq_some_iff.1 hl).1
 have hb:stepB f (dist f to) at_ i≠none:=by
  unfold stepB
  rw [hl]
  dsimp only
  have ho:(otherF l at_).2=true∧gI (dist f to) (otherF l at_).1=gI (dist f to) at_ - 1:=by
   unfold otherF
   rcases h3 with ⟨h3,h4⟩|⟨h3,h4⟩
   ·rw [if_pos h3.symm];exact ⟨rfl,by rw [h4];exact h1⟩
   ·by_cases e:at_=l.a
    ·rw [if_pos e]
     have:l.b=l.a:=by rw [h3,e]
     refine ⟨rfl,?_⟩
     rw [show l.b=y from by rw [this,h4]];exact h1
    ·rw [if_neg e,if_pos h3.symm];exact ⟨rfl,by rw [h4];exact h1⟩
  rw [if_pos ⟨ho.1,hW,by omega,ho.2⟩]
  exact fun h=>by cases h
 intro he
 cases hs:stepB f (dist f to) at_ i with
 | none=>exact hb hs
 | some p =>
  have:p∈stepsK f (dist f to) at_ f.links.length:=by
   unfold stepsK
   exact List.mem_filterMap.2 ⟨i,by simpa using hi,hs⟩
  rw [he] at this;cases this
theorem other_any (l:Lnk) (at_:Int):AFn Tryz.prog 50 0 [.agg (lnkC l),.base (.int .i64 at_)] mt (.tup [.base (.int .i64 (otherF l at_).1),.base (.bool (otherF l at_).2)]) mt:=by
 refine AFn.eq Tryz.func50 rfl rfl (Nat.le_of_ble_eq_true rfl) ?_
 unfold lnkC
 refine Wq<|qW 0 3 rfl<|qC rfl<|qA rfl<|qA rfl<|Nl<|Wq<|Wq<|qW 7 8 rfl<|qM rfl<|Nl<|Wb ?_
 by_cases e1:at_=l.a
 ·have g1:(at_ == l.a)=true:=by simpa using e1
  refine Wq<|qW 12 16 rfl<|qF rfl ty96 rfl<|qL rfl ty3 rfl<|qE rfl<|qA rfl<|Nl<|Wt rfl ‹_›<|Wq<|qW 20 24 rfl<|qF rfl ty96 rfl<|qL rfl ty3 rfl<|qA rfl<|qA rfl<|Nl<|Wz ⟨.inl rfl,_,mt,Rc (Rt0 rfl) (Rc (Rt0 rfl) (Rv)),aM,?_⟩
  exact ⟨by unfold otherF;rw [if_pos e1];rfl,rfl⟩
 ·have g1:(at_ == l.a)=false:=by simpa using e1
  by_cases e2:at_=l.b
  ·have g2:(at_ == l.b)=true:=by simpa using e2
   refine Wq<|qW 12 16 rfl<|qF rfl ty96 rfl<|qL rfl ty3 rfl<|qE rfl<|qA rfl<|Nl<|Wo rfl ‹_›<|Wq<|qW 28 32 rfl<|qF rfl ty96 rfl<|qL rfl ty3 rfl<|qE rfl<|qA rfl<|Nl<|Wt rfl ‹_›<|Wq<|qW 36 40 rfl<|qF rfl ty96 rfl<|qL rfl ty3 rfl<|qA rfl<|qA rfl<|Nl<|Wz ⟨.inl rfl,_,mt,Rc (Rt0 rfl) (Rc (Rt0 rfl) (Rv)),aM,?_⟩
   exact ⟨by unfold otherF;rw [if_neg e1,if_pos e2];rfl,rfl⟩
  ·have g2:(at_ == l.b)=false:=by simpa using e2
   refine Wq<|qW 12 16 rfl<|qF rfl ty96 rfl<|qL rfl ty3 rfl<|qE rfl<|qA rfl<|Nl<|Wo rfl ‹_›<|Wq<|qW 28 32 rfl<|qF rfl ty96 rfl<|qL rfl ty3 rfl<|qE rfl<|qA rfl<|Nl<|Wo rfl ‹_›<|Wu<|Wq<|qW 44 46 rfl<|qA rfl<|qA rfl<|Nl<|Wz ⟨.inl rfl,_,mt,Rc (Rt0 rfl) (Rc (Rt0 rfl) (Rv)),aM,?_⟩
   exact ⟨by unfold otherF;rw [if_neg e1,if_neg e2];rfl,rfl⟩
def EndsIn (f:Fab):Prop:=∀ (i:Nat) (l:Lnk),f.links[i]?=some l→0≤l.a∧l.a < f.dead.length∧0≤l.b∧l.b < f.dead.length
theorem EndsIn.other {f:Fab} (h:EndsIn f) {i:Nat} {l:Lnk} (hl:f.links[i]?=some l) {at_:Int} (ho:(otherF l at_).2=true):0≤(otherF l at_).1∧(otherF l at_).1 < f.dead.length:=by
 obtain ⟨h1,h2,h3,h4⟩:=h i l hl
 unfold otherF at ho ⊢
 split
 ·exact ⟨h3,h4⟩
 ·split
  ·exact ⟨h1,h2⟩
  ·rw [if_neg (by assumption),if_neg (by assumption)] at ho;cases ho
theorem way_next {f:Fab} {to at_ h:Int} (hp:0 < gI (dist f to) at_) {L:List (Int × Int)} (hL:stepsK f (dist f to) at_ f.links.length=L):0 < L.length∧pickN h L.length < L.length∧gI (dist f to) (gI (sndL L) (pickN h L.length))=gI (dist f to) at_ - 1 ∧
 wayL f (dist f to) h (gI (dist f to) at_).toNat at_=gI (fstL L) (pickN h L.length)::wayL f (dist f to) h (gI (dist f to) (gI (sndL L) (pickN h L.length))).toNat (gI (sndL L) (pickN h L.length)):=by
 have hne:=steps_ne hp
 rw [hL] at hne
 have h0:0 < L.length:=List.length_pos_iff.2 hne
 have hk:=pickN_lt h h0
 obtain ⟨i,l,_,_,he,_,_,_,h5⟩:=stepsK_mem (f:=f) (d:=dist f to) (at_:=at_) (k:=f.links.length) (p:=L[pickN h L.length]) (by rw [hL];exact List.getElem_mem hk)
 have hs:gI (sndL L) (pickN h L.length)=(otherF l at_).1:=by
  rw [gI_at (by simpa [sndL] using hk)]
  simp [sndL,he]
 rw [hs,h5]
 refine ⟨h0,hk,rfl,?_⟩
 obtain ⟨m,hm⟩:∃ m:Nat,gI (dist f to) at_=(m:Int) + 1:=⟨(gI (dist f to) at_ - 1).toNat,by omega⟩
 rw [hm,show ((m:Int) + 1).toNat=m + 1 from by omega,show ((m:Int) + 1 - 1).toNat=m from by omega]
 show (_::_)=_
 rw [hL,hs]
set_option maxHeartbeats 1000000 in
theorem way_any (f:Fab) (hf:FabS f) (he:EndsIn f) (frm to h:Int):AFn Tryz.prog 19 0 [.agg (fabC f),.base (.int .i64 frm),.base (.int .i64 to),.base (.int .i64 h)] mt (wayV (wayF f frm to h)) mt:=by
 refine AFn.eq Tryz.func19 rfl rfl (Nat.le_of_ble_eq_true rfl) ?_
 have hds:=distances_isl f hf
 have hwk:=works_any f
 have hot:=other_any
 obtain ⟨hsw,h8,h24⟩:=hf
 have hdl:=dist_len f to
 have hlt:=fun x=>dist_lt f to x
 have hge:=fun x=>dist_ge f to x
 refine Wq<|qW 0 3 rfl<|qC rfl<|qA rfl<|qA rfl<|Nl<|Wq<|qW 7 11 rfl<|qG rfl ty41 rfl (Tl rfl)<|qM rfl<|qY rfl (hds _) fok20 rfl<|qA rfl<|Nl ?_
 obtain ⟨d,hd⟩:∃ d,dist f to=d:=⟨_,rfl⟩
 by_cases hfr:0≤gI (dist f to) frm
 ·obtain ⟨r0,r1⟩:=gI_range hfr
  rw [hdl] at r1
  have k1:decide (frm < 0)=false:=decide_eq_false (by omega)
  have k2:decide (frm ≥ (f.dead.length:Int))=false:=decide_eq_false (by omega)
  have k3:decide (gI (dist f to) frm < 0)=false:=decide_eq_false (by omega)
  have hv:wayF f frm to h=some (wayL f (dist f to) h (gI (dist f to) frm).toNat frm):=if_pos hfr
  have hal:=dist_alive hfr
  refine Wq<|Wq<|qW 15 30 rfl<|qM rfl<|qK rfl<|qM rfl<|gM rfl ‹_›<|gM rfl ‹_›<|gH rfl ‹_› ty22<|gGe rfl ‹_›<|qP rfl ‹_› rfl<|qM rfl<|gM rfl ‹_›<|gM rfl ‹_›<|qU rfl ‹_› rfl (Ii rfl rfl rfl rfl (Int.toNat_of_nonneg r0).symm ty22 ty3 (by omega))<|qU rfl ‹_› rfl (Li rfl rfl (gi_at1 r0 (by omega)) ty3 rfl)<|gK rfl ‹_›<|qP rfl ‹_› rfl<|Nl<|Wo rfl ‹_›<|Wu<|Wq<|qW 40 41 rfl<|qA rfl<|Nl<|W.name 41 (41 + 1) (t:=11) (sz:=1) rfl (by decide) (by decide)<|Wq<|Wq<|qW 45 47 rfl<|qM rfl<|qA rfl<|Nl<|Wb<|W.rename [(0,0),(1,41)] 2 (T':=up (up (up (up (up (up mt 2 (some (.base (.int .i64 to)))) 3 (some (.base (.int .i64 h)))) 4 (some (.own 0 0))) 10 (some (.isl (intsC (dist f to)) f.dead.length))) 11 (some (.osl 1 0 (([]:List Int)).length 1))) 12 (some (.base (.int .i64 frm)))) (H':=up (up mt 0 (some (fabC f))) 1 (some (intsC (([]:List Int))))) (by decide) ?_ ?_ ?_
  ·exact aU (lR rfl) (aU (lI rfl) (aU (lR rfl) (aU (lI rfl) (aU (lR rfl) (aU (lR rfl) aM)))))
  ·exact aU (kR rfl) (aU (kR rfl) aM)
  refine W.loop_ind (α:=Int × List Int) (fun x=>(gI (dist f to) x.1).toNat) 2 (fun x=>up (up (up (up (up (up mt 2 (some (.base (.int .i64 to)))) 3 (some (.base (.int .i64 h)))) 4 (some (.own 0 0))) 10 (some (.isl (intsC (dist f to)) f.dead.length))) 11 (some (.osl 1 0 x.2.length 1))) 12 (some (.base (.int .i64 x.1)))) (fun x=>up (up mt 0 (some (fabC f))) 1 (some (intsC x.2))) (fun x=>(0≤gI (dist f to) x.1∧x.2.length + (gI (dist f to) x.1).toNat≤8)∧wayF f frm to h=some (x.2++wayL f (dist f to) h (gI (dist f to) x.1).toNat x.1)) (frm,(([]:List Int))) (show (0≤gI (dist f to) frm∧(([]:List Int)).length + (gI (dist f to) frm).toNat≤8)∧wayF f frm to h=some ((([]:List Int))++wayL f (dist f to) h (gI (dist f to) frm).toNat frm) from ⟨⟨hfr,by have:=hlt frm (by omega);simp only [List.length_nil];omega⟩,hv⟩) ?_
  rintro ⟨at_,out⟩ hIA ihA
  try (dsimp only at hIA)
  try dsimp only
  obtain ⟨⟨hat,hol⟩,hw⟩:=hIA
  obtain ⟨q0,q1⟩:=gI_range hat
  rw [hdl] at q1
  by_cases eat:at_=to
  ·have g1:(at_ != to)=false:=by simpa using eat
   have hz:gI (dist f to) at_=0:=by rw [eat,dist_self hal]
   refine Wq<|Wq<|qW 51 54 rfl<|qM rfl<|qM rfl<|qN rfl<|Nl<|Wo rfl ‹_›<|Wx<|Wq<|qW 187 190 rfl<|qM rfl<|qA rfl<|qA rfl<|Nl<|Wy (t:=8) rfl rfl (ints_tk rfl) (intsC_pure _)<|Wz ⟨.inl rfl,_,mt,Rc (Rt0 rfl) (Rc (Rt0 rfl) (Rv)),aM,?_⟩
   refine ⟨?_,rfl⟩
   rw [hw,hz]
   show AV.tup [.isl (intsC out) out.length,.base (.bool true)]=wayV (some (out++[]))
   rw [List.append_nil];rfl
  ·have g1:(at_ != to)=true:=by simpa using eat
   have hpos:0 < gI (dist f to) at_:=by
    have:gI (dist f to) at_≠0:=fun h0=>eat ((dist_ok hal).zero _ h0)
    omega
   refine Wq<|Wq<|qW 51 54 rfl<|qM rfl<|qM rfl<|qN rfl<|Nl<|Wt rfl ‹_›<|Wu<|Wb<|Wq<|qW 58 60 rfl<|qA rfl<|qA rfl<|Nl<|W.name 60 (60 + 1) (t:=13) (sz:=1) rfl (by decide) (by decide)<|W.name (60 + 1) (60 + 2) (t:=14) (sz:=1) rfl (by decide) (by decide)<|Wq<|Wq<|qW 64 68 rfl<|qF rfl ty41 rfl<|qL rfl ty38 rfl<|qH rfl ty38<|qM rfl<|Nl<|Wb<|W.rename [(0,0),(1,1),(2,60),(3,(60 + 1))] 4 (T':=up (up (up (up (up (up (up (up (up (up (up mt 2 (some (.base (.int .i64 to)))) 3 (some (.base (.int .i64 h)))) 4 (some (.own 0 0))) 10 (some (.isl (intsC (dist f to)) f.dead.length))) 11 (some (.osl 1 0 out.length 1))) 12 (some (.base (.int .i64 at_)))) 13 (some (.osl 2 0 (([]:List (Int × Int))).length 1))) 14 (some (.osl 3 0 (([]:List (Int × Int))).length 1))) 43 (some (.isl (lnksC f.links) f.links.length))) 44 (some (.base (.int .i64 (f.links.length:Int))))) 45 (some (.base (.int .i64 (0:Int))))) (H':=up (up (up (up mt 0 (some (fabC f))) 1 (some (intsC out))) 2 (some (intsC (fstL (([]:List (Int × Int))))))) 3 (some (intsC (sndL (([]:List (Int × Int))))))) (by decide) ?_ ?_ ?_
   ·exact aU (lR rfl) (aU (lR rfl) (aU (lR rfl) (aU (lI rfl) (aU (lI rfl) (aU (lR rfl) (aU (lI rfl) (aU (lR rfl) (aU (lI rfl) (aU (lR rfl) (aU (lR rfl) aM))))))))))
   ·exact aU (kR rfl) (aU (kR rfl) (aU (kP rfl (intsC_pure _)) (aU (kR rfl) aM)))
   refine W.loop_ind (α:=Nat × List (Int × Int)) (fun x=>f.links.length - x.1) 4 (fun x=>up (up (up (up (up (up (up (up (up (up (up mt 2 (some (.base (.int .i64 to)))) 3 (some (.base (.int .i64 h)))) 4 (some (.own 0 0))) 10 (some (.isl (intsC (dist f to)) f.dead.length))) 11 (some (.osl 1 0 out.length 1))) 12 (some (.base (.int .i64 at_)))) 13 (some (.osl 2 0 x.2.length 1))) 14 (some (.osl 3 0 x.2.length 1))) 43 (some (.isl (lnksC f.links) f.links.length))) 44 (some (.base (.int .i64 (f.links.length:Int))))) 45 (some (.base (.int .i64 (x.1:Int))))) (fun x=>up (up (up (up mt 0 (some (fabC f))) 1 (some (intsC out))) 2 (some (intsC (fstL x.2)))) 3 (some (intsC (sndL x.2)))) (fun x=>x.1≤f.links.length∧stepsK f (dist f to) at_ x.1=x.2) (0,(([]:List (Int × Int)))) (show 0≤f.links.length∧stepsK f (dist f to) at_ 0=(([]:List (Int × Int))) from ⟨Nat.zero_le _,rfl⟩) ?_
   rintro ⟨i,L⟩ hIB ihB
   try (dsimp only at hIB)
   try dsimp only
   obtain ⟨hi,hL⟩:=hIB
   have hLl:L.length≤i:=by rw [← hL];exact stepsK_len _ _ _ _
   have hf1:(fstL L).length=L.length:=by simp [fstL]
   have hf2:(sndL L).length=L.length:=by simp [sndL]
   by_cases hc:i < f.links.length
   ·have g2:decide ((i:Int) < (f.links.length:Int))=true:=decide_eq_true (by omega)
    have hl2:f.links[i]?=some f.links[i]:=by simp [hc]
    have hnx:=stepsK_succ f (dist f to) at_ i
    rw [hL] at hnx
    have hEo:=fun ho=>he.other hl2 (at_:=at_) ho
    refine Wq<|qW 72 73 rfl<|qK rfl<|Nl<|Wq<|Wt rfl ‹_›<|Wu<|Wq<|Wb<|Wq<|qW 77 83 rfl<|qM rfl<|qJ rfl rfl ty38 ty96 (by omega)<|Od rfl rfl (Lg rfl rfl ty96 rfl (lnksC_tk hc))<|qB rfl ty96<|qA rfl<|qS rfl ty96 (Sl rfl) rfl<|Nl ?_
    obtain ⟨lk,hlk⟩:∃ lk,f.links[i]=lk:=⟨_,rfl⟩
    rw [hlk] at hl2 hEo ⊢
    have hsb:stepB f (dist f to) at_ i=if (otherF lk at_).2=true∧wkF f i=true∧0≤gI (dist f to) at_∧gI (dist f to) (otherF lk at_).1=gI (dist f to) at_ - 1 then some ((i:Int),(otherF lk at_).1) else none:=by
     unfold stepB;rw [hl2]
    have hotl:=hot lk at_
    obtain ⟨eo,heo⟩:∃ eo,otherF lk at_=eo:=⟨_,rfl⟩
    rw [heo] at hsb hEo hotl
    obtain ⟨e,ok⟩:=eo
    dsimp only at hsb hEo hotl
    refine Wq<|qW 87 95 rfl<|qG rfl ty96 rfl (Tl rfl)<|qM rfl<|qY rfl (hotl) fok50 rfl<|qM rfl<|qX rfl<|qX rfl<|qA rfl<|qA rfl<|Nl ?_
    cases ok with
    | false =>
     rw [if_neg (by simp)] at hsb
     rw [hsb] at hnx
     refine Wq<|Wd 99 123 (by decide) rfl mixed rfl<|qM rfl<|qM rfl<|qD rfl rfl rfl<|qD rfl rfl rfl<|qD rfl rfl rfl<|qD rfl rfl rfl<|qP rfl rfl rfl<|qM rfl<|qD rfl rfl rfl<|qD rfl rfl rfl<|qD rfl rfl rfl<|qP rfl rfl rfl<|qM rfl<|qD rfl rfl rfl<|qD rfl rfl rfl<|qD rfl rfl rfl<|qD rfl rfl rfl<|qD rfl rfl rfl<|qD rfl rfl rfl<|qD rfl rfl rfl<|qD rfl rfl rfl<|qD rfl rfl rfl<|qD rfl rfl rfl<|qP rfl rfl rfl<|Nl ⟨by kernel_rfl,(Wo rfl rfl<|Wu<|qW 141 143 rfl<|qZ rfl (iW _ (by omega))<|qM rfl<|Nl<|WL.rename [(0,0),(1,1),(2,2),(3,3)] 4 (by decide) ?_ ?_ (ihB ((i + 1),L) (show f.links.length - (i + 1) < f.links.length - i from by omega) (show (i + 1)≤f.links.length∧stepsK f (dist f to) at_ (i + 1)=L from ⟨by omega,by rw [hnx];exact List.append_nil _⟩)))⟩
     ·exact aU (lR rfl) (aU (lR rfl) (aU (lR rfl) (aU (lI rfl) (aU (lI rfl) (aU (lR rfl) (aU (lI rfl) (aU (lR rfl) (aU (lI rfl) (aU (lR rfl) (aU (lR rfl) aM))))))))))
     ·exact aU (kP rfl (intsC_pure _)) (aU (kP rfl (intsC_pure _)) (aU (kP rfl (intsC_pure _)) (aU (kR rfl) aM)))
    | true =>
     obtain ⟨x0,x1⟩:=hEo rfl
     have k1:decide (e < (f.dead.length:Int))=true:=decide_eq_true (by omega)
     cases hwi:worksB f i with
     | false =>
      rw [if_neg (by rw [show wkF f i=false from hwi];simp)] at hsb
      rw [hsb] at hnx
      refine Wq<|Wd 99 123 (by decide) rfl mixed rfl<|qM rfl<|qM rfl<|gM rfl rfl<|gM rfl rfl<|gH rfl rfl ty22<|gK rfl rfl<|qT rfl rfl rfl<|qM rfl<|gG rfl ‹_› ty41 rfl (Tl rfl)<|gM rfl ‹_›<|gY rfl ‹_› (hwk _) fok33 rfl<|qT rfl ‹_› rfl<|qM rfl<|qD rfl ‹_› rfl<|qD rfl ‹_› rfl<|qD rfl ‹_› rfl<|qD rfl ‹_› rfl<|qD rfl ‹_› rfl<|qD rfl ‹_› rfl<|qD rfl ‹_› rfl<|qD rfl ‹_› rfl<|qD rfl ‹_› rfl<|qD rfl ‹_› rfl<|qP rfl ‹_› rfl<|Nl ⟨by kernel_rfl,(Wo rfl rfl<|Wu<|qW 141 143 rfl<|qZ rfl (iW _ (by omega))<|qM rfl<|Nl<|WL.rename [(0,0),(1,1),(2,2),(3,3)] 4 (by decide) ?_ ?_ (ihB ((i + 1),L) (show f.links.length - (i + 1) < f.links.length - i from by omega) (show (i + 1)≤f.links.length∧stepsK f (dist f to) at_ (i + 1)=L from ⟨by omega,by rw [hnx];exact List.append_nil _⟩)))⟩
      ·exact aU (lR rfl) (aU (lR rfl) (aU (lR rfl) (aU (lI rfl) (aU (lI rfl) (aU (lR rfl) (aU (lI rfl) (aU (lR rfl) (aU (lI rfl) (aU (lR rfl) (aU (lR rfl) aM))))))))))
      ·exact aU (kP rfl (intsC_pure _)) (aU (kP rfl (intsC_pure _)) (aU (kP rfl (intsC_pure _)) (aU (kR rfl) aM)))
     | true =>
      have hla:=hlt at_ (by omega)
      by_cases ee:gI (dist f to) e=gI (dist f to) at_ - 1
      ·have k2:(gI (dist f to) e == gI (dist f to) at_ - 1)=true:=by simpa using ee
       rw [if_pos ⟨rfl,hwi,by omega,ee⟩] at hsb
       rw [hsb] at hnx
       refine Wq<|Wd 99 123 (by decide) rfl mixed rfl<|qM rfl<|qM rfl<|gM rfl rfl<|gM rfl rfl<|gH rfl rfl ty22<|gK rfl rfl<|qT rfl rfl rfl<|qM rfl<|gG rfl ‹_› ty41 rfl (Tl rfl)<|gM rfl ‹_›<|gY rfl ‹_› (hwk _) fok33 rfl<|qT rfl ‹_› rfl<|qM rfl<|gM rfl ‹_›<|gM rfl ‹_›<|qU rfl ‹_› rfl (Ii rfl rfl rfl rfl (Int.toNat_of_nonneg x0).symm ty22 ty3 (by omega))<|qU rfl ‹_› rfl (Li rfl rfl (gi_at1 x0 (by omega)) ty3 rfl)<|gM rfl ‹_›<|gM rfl ‹_›<|qU rfl ‹_› rfl (Ii rfl rfl rfl rfl (Int.toNat_of_nonneg q0).symm ty22 ty3 (by omega))<|qU rfl ‹_› rfl (Li rfl rfl (gi_at1 q0 (by omega)) ty3 rfl)<|qU rfl ‹_› rfl (LO.sub_in rfl rfl rfl (iW _ (by omega)))<|gE rfl ‹_›<|qT rfl ‹_› rfl<|Nl ⟨by kernel_rfl,(Wt rfl ‹_›<|qW 127 137 rfl<|qM rfl<|qM rfl<|Od rfl rfl (LO.buildSlice rfl ty22 ty3 (by decide) (by decide) (.cons rfl rfl rfl rfl (Sl rfl) .nil))<|Od rfl rfl (Lap rfl rfl (Sso rfl rfl (Tl rfl)) rfl (ints_tk hf1) ty22 ty22 ty3 (by decide) (by omega) (by omega) (by decide))<|qM rfl<|qM rfl<|Od rfl rfl (LO.buildSlice rfl ty22 ty3 (by decide) (by decide) (.cons rfl rfl rfl rfl (Sl rfl) .nil))<|Od rfl rfl (Lap rfl rfl (Sso rfl rfl (Tl rfl)) rfl (ints_tk hf2) ty22 ty22 ty3 (by decide) (by omega) (by omega) (by decide))<|qA rfl<|qA rfl<|Nl<|qW 141 143 rfl<|qZ rfl (iW _ (by omega))<|qM rfl<|Nl ?_)⟩
       rw [show intsC (fstL L)++[AV.base (.int .i64 (i:Int))]=intsC (fstL (L++[((i:Int),e)])) from by simp [intsC,fstL],show intsC (sndL L)++[AV.base (.int .i64 e)]=intsC (sndL (L++[((i:Int),e)])) from by simp [intsC,sndL],show L.length + 1=(L++[((i:Int),e)]).length from by simp]
       refine WL.rename [(0,0),(1,1),(2,130),(3,134)] 4 (by decide) ?_ ?_ (ihB ((i + 1),(L++[((i:Int),e)])) (show f.links.length - (i + 1) < f.links.length - i from by omega) (show (i + 1)≤f.links.length∧stepsK f (dist f to) at_ (i + 1)=(L++[((i:Int),e)]) from ⟨by omega,hnx⟩))
       ·exact aU (lR rfl) (aU (lR rfl) (aU (lR rfl) (aU (lI rfl) (aU (lI rfl) (aU (lR rfl) (aU (lI rfl) (aU (lR rfl) (aU (lI rfl) (aU (lR rfl) (aU (lR rfl) aM))))))))))
       ·exact aU (kP rfl (intsC_pure _)) (aU (kP rfl (intsC_pure _)) (aU (kP rfl (intsC_pure _)) (aU (kR rfl) aM)))
      ·have k2:(gI (dist f to) e == gI (dist f to) at_ - 1)=false:=by simpa using ee
       rw [if_neg (fun h=>ee h.2.2.2)] at hsb
       rw [hsb] at hnx
       refine Wq<|Wd 99 123 (by decide) rfl mixed rfl<|qM rfl<|qM rfl<|gM rfl rfl<|gM rfl rfl<|gH rfl rfl ty22<|gK rfl rfl<|qT rfl rfl rfl<|qM rfl<|gG rfl ‹_› ty41 rfl (Tl rfl)<|gM rfl ‹_›<|gY rfl ‹_› (hwk _) fok33 rfl<|qT rfl ‹_› rfl<|qM rfl<|gM rfl ‹_›<|gM rfl ‹_›<|qU rfl ‹_› rfl (Ii rfl rfl rfl rfl (Int.toNat_of_nonneg x0).symm ty22 ty3 (by omega))<|qU rfl ‹_› rfl (Li rfl rfl (gi_at1 x0 (by omega)) ty3 rfl)<|gM rfl ‹_›<|gM rfl ‹_›<|qU rfl ‹_› rfl (Ii rfl rfl rfl rfl (Int.toNat_of_nonneg q0).symm ty22 ty3 (by omega))<|qU rfl ‹_› rfl (Li rfl rfl (gi_at1 q0 (by omega)) ty3 rfl)<|qU rfl ‹_› rfl (LO.sub_in rfl rfl rfl (iW _ (by omega)))<|gE rfl ‹_›<|qT rfl ‹_› rfl<|Nl ⟨by kernel_rfl,(Wo rfl ‹_›<|Wu<|qW 141 143 rfl<|qZ rfl (iW _ (by omega))<|qM rfl<|Nl<|WL.rename [(0,0),(1,1),(2,2),(3,3)] 4 (by decide) ?_ ?_ (ihB ((i + 1),L) (show f.links.length - (i + 1) < f.links.length - i from by omega) (show (i + 1)≤f.links.length∧stepsK f (dist f to) at_ (i + 1)=L from ⟨by omega,by rw [hnx];exact List.append_nil _⟩)))⟩
       ·exact aU (lR rfl) (aU (lR rfl) (aU (lR rfl) (aU (lI rfl) (aU (lI rfl) (aU (lR rfl) (aU (lI rfl) (aU (lR rfl) (aU (lI rfl) (aU (lR rfl) (aU (lR rfl) aM))))))))))
       ·exact aU (kP rfl (intsC_pure _)) (aU (kP rfl (intsC_pure _)) (aU (kP rfl (intsC_pure _)) (aU (kR rfl) aM)))
   ·have g2:decide ((i:Int) < (f.links.length:Int))=false:=decide_eq_false (by omega)
    refine Wq<|qW 72 73 rfl<|qK rfl<|Nl<|Wq<|Wo rfl ‹_›<|Wx ?_
    obtain rfl:i=f.links.length:=by omega
    obtain ⟨h0,hk,hdn,hwn⟩:=way_next (h:=h) hpos hL
    have k1:((L.length:Int) == 0)=false:=by simp;exact fun h=>by rw [h] at h0;exact absurd h0 (by decide)
    obtain ⟨hn,hhn,hn0⟩:∃ hn:Int,(if 0 < h then h else 0)=hn∧0≤hn:=⟨_,rfl,by split<;>omega⟩
    have hpk:=pickN_eq h h0
    rw [hhn] at hpk
    obtain ⟨pk,hpke⟩:∃ pk,pickN h L.length=pk:=⟨_,rfl⟩
    rw [hpke] at hpk hk hdn hwn
    clear ihB
    refine Wq<|Wq<|qW 147 150 rfl<|qM rfl<|Od rfl rfl (LO.len rfl rfl ty22)<|qE rfl<|Nl<|Wo rfl ‹_›<|Wu<|Wq<|qW 160 166 rfl<|qM rfl<|Od rfl rfl (LO.max rfl rfl rfl) ?_
    rw [hhn]
    refine qM rfl<|Od rfl rfl (LO.len rfl rfl ty22)<|Od rfl rfl (LO.rem_in rfl rfl rfl (by omega) (by omega))<|qA rfl<|Nl ?_
    rw [hpk]
    refine Wd 170 183 (by decide) rfl mixed rfl<|qM rfl<|qM rfl<|qM rfl<|Od rfl rfl (Ia rfl rfl rfl rfl ty22 ty3 (by omega))<|Od rfl rfl (Ld rfl rfl rfl (ni_at (k:=pk) (by omega)) ty3 rfl)<|Od rfl rfl (LO.buildSlice rfl ty22 ty3 (by decide) (by decide) (.cons rfl rfl rfl rfl (Sl rfl) .nil))<|Od rfl rfl (Lap rfl rfl (Sso rfl rfl (Tl rfl)) rfl (ints_tk rfl) ty22 ty22 ty3 (by decide) (by omega) (by omega) (by decide))<|qM rfl<|qM rfl<|Od rfl rfl (Ia rfl rfl rfl rfl ty22 ty3 (by omega))<|Od rfl rfl (Ld rfl rfl rfl (ni_at (k:=pk) (by omega)) ty3 rfl)<|qA rfl<|qA rfl<|Nl ⟨by kernel_rfl,?_⟩
    rw [ints_snoc,show out.length + 1=(out++[gI (fstL L) pk]).length from by simp]
    refine WL.rename [(0,0),(1,176)] 2 (by decide) ?_ ?_ (ihA ((gI (sndL L) pk),(out++[gI (fstL L) pk])) (show (gI (dist f to) (gI (sndL L) pk)).toNat < (gI (dist f to) at_).toNat from by omega) (show (0≤gI (dist f to) (gI (sndL L) pk)∧(out++[gI (fstL L) pk]).length + (gI (dist f to) (gI (sndL L) pk)).toNat≤8)∧wayF f frm to h=some ((out++[gI (fstL L) pk])++wayL f (dist f to) h (gI (dist f to) (gI (sndL L) pk)).toNat (gI (sndL L) pk)) from ⟨⟨by omega,by simp only [List.length_append,List.length_singleton];omega⟩,by rw [hw,hwn,List.append_assoc];rfl⟩))
    ·exact aU (lR rfl) (aU (lI rfl) (aU (lR rfl) (aU (lI rfl) (aU (lR rfl) (aU (lR rfl) aM)))))
    ·exact aU (kP rfl (intsC_pure _)) (aU (kR rfl) aM)
 ·have hv:wayF f frm to h=none:=if_neg hfr
  have hcase:frm < 0∨(¬ frm < 0∧frm ≥ f.dead.length)∨(¬ frm < 0∧¬ frm ≥ f.dead.length):=by omega
  rcases hcase with c1|⟨c1,c2⟩|⟨c1,c2⟩
  case' inl =>
   have k1:decide (frm < 0)=true:=decide_eq_true c1
   refine Wq<|Wq<|qW 15 30 rfl<|qM rfl<|qK rfl<|qM rfl<|qD rfl ‹_› rfl<|qD rfl ‹_› rfl<|qD rfl ‹_› rfl<|qD rfl ‹_› rfl<|qT rfl ‹_› rfl<|qM rfl<|qD rfl rfl rfl<|qD rfl rfl rfl<|qD rfl rfl rfl<|qD rfl rfl rfl<|qD rfl rfl rfl<|qT rfl rfl rfl<|Nl ?_
  case' inr.inl =>
   have k1:decide (frm < 0)=false:=decide_eq_false c1
   have k2:decide (frm ≥ (f.dead.length:Int))=true:=decide_eq_true c2
   refine Wq<|Wq<|qW 15 30 rfl<|qM rfl<|qK rfl<|qM rfl<|gM rfl ‹_›<|gM rfl ‹_›<|gH rfl ‹_› ty22<|gGe rfl ‹_›<|qP rfl ‹_› rfl<|qM rfl<|qD rfl ‹_› rfl<|qD rfl ‹_› rfl<|qD rfl ‹_› rfl<|qD rfl ‹_› rfl<|qD rfl ‹_› rfl<|qT rfl ‹_› rfl<|Nl ?_
  case' inr.inr =>
   have k1:decide (frm < 0)=false:=decide_eq_false c1
   have k2:decide (frm ≥ (f.dead.length:Int))=false:=decide_eq_false c2
   have k3:decide (gI (dist f to) frm < 0)=true:=decide_eq_true (by omega)
   have r0:0≤frm:=by omega
   refine Wq<|Wq<|qW 15 30 rfl<|qM rfl<|qK rfl<|qM rfl<|gM rfl ‹_›<|gM rfl ‹_›<|gH rfl ‹_› ty22<|gGe rfl ‹_›<|qP rfl ‹_› rfl<|qM rfl<|gM rfl ‹_›<|gM rfl ‹_›<|qU rfl ‹_› rfl (Ii rfl rfl rfl rfl (Int.toNat_of_nonneg r0).symm ty22 ty3 (by omega))<|qU rfl ‹_› rfl (Li rfl rfl (gi_at1 r0 (by omega)) ty3 rfl)<|gK rfl ‹_›<|qP rfl ‹_› rfl<|Nl ?_
  all_goals
   refine Wt rfl (by first|rfl|assumption) ?_
   repeat (refine Wq ?_)
   refine qW 34 36 rfl<|qA rfl<|qA rfl<|Nl<|W.name 36 (36 + 1) (t:=8) (sz:=1) rfl (by decide) (by decide)<|Wy (t:=8) rfl rfl (Tl rfl) rfl<|Wz ⟨.inl rfl,_,mt,Rc (Rt0 rfl) (Rc (Rt0 rfl) (Rv)),aM,?_⟩
   exact ⟨by rw [hv];rfl,rfl⟩
theorem FabOK.ends {f:Fab} (h:FabOK f):EndsIn f:=fun i l hl=>by
 obtain ⟨h1,h2,h3,h4,_⟩:=h.links l (List.mem_of_getElem? hl)
 have:=h.dead
 exact ⟨h1,by omega,h3,by omega⟩
theorem wayL_len (f:Fab) (d:List Int) (h:Int) (m:Nat) (at_:Int):(wayL f d h m at_).length=m:=by
 induction m generalizing at_ with
 | zero=>rfl
 | succ m ih=>show (_::wayL f d h m _).length=m + 1;rw [List.length_cons,ih]
def listsC (l:List (List Int)):List AV:=l.map fun x=>.isl (intsC x) x.length
theorem listsC_pure (l:List (List Int)):(listsC l).all AV.pure1=true:=by
 induction l with
 | nil=>rfl
 | cons x l ih=>rw [show listsC (x::l)=[.isl (intsC x) x.length]++listsC l from rfl,List.all_append,ih];rfl
theorem lists_at {l:List (List Int)} {k:Nat} (h:k < l.length):(listsC l)[k * 1]?=some (.isl (intsC l[k]) l[k].length):=by simp [listsC,h]
theorem lists_tk {l:List (List Int)} {n:Nat} (h:l.length=n):Tk (listsC l) 0 (n * 1) (listsC l):=by
 have:=Tk.all (listsC l)
 rwa [show (listsC l).length=n * 1 from by simp [listsC,h]] at this
def idxF (l:List Int) (v:Int):Int:=if v∈l then (l.idxOf v:Int) else -1
theorem index_any (l:List Int) (v:Int) (hl:l.length≤9223372036854775807):AFn Tryz.prog 99 0 [.isl (intsC l) l.length,.base (.int .i64 v)] mt (.base (.int .i64 (idxF l v))) mt:=by
 refine AFn.eq Tryz.func99 rfl rfl (Nat.le_of_ble_eq_true rfl)<|Wq<|qW 0 1 rfl<|qA rfl<|Nl<|Wq<|Wq<|qW 5 8 rfl<|qM rfl<|qH rfl ty22<|qM rfl<|Nl<|Wb<|W.loop_keep (α:=Nat) (fun x=>l.length - x) 0 (fun x=>[(8,.base (.int .i64 (x:Int)))]) (fun x=>mt) (fun x=>x≤l.length∧v ∉ l.take x) 0 [] (.cons (t:=0) rfl (by exact .inl rfl) (.cons (t:=1) rfl (by exact .inl rfl) (.cons (t:=7) rfl (by exact .inl rfl) .nil))) (show 0≤l.length∧v ∉ l.take 0 from ⟨Nat.zero_le _,by simp⟩) (by decide) ?_ ?_ ?_
 ·exact lC (lR rfl) lN
 ·exact aM
 rintro i hIA ihA
 try (dsimp only at hIA)
 try dsimp only [baseT,List.cons_append,List.nil_append]
 obtain ⟨hi,hni⟩:=hIA
 by_cases hc:i < l.length
 ·have g1:decide ((i:Int) < (l.length:Int))=true:=decide_eq_true (by omega)
  refine Wq<|qW 12 13 rfl<|qK rfl<|Nl<|Wq<|Wt rfl ‹_›<|Wu<|Wq<|Wb<|Wq<|qW 17 19 rfl<|qM rfl<|qA rfl<|Nl<|Wq<|qW 23 29 rfl<|qM rfl<|qM rfl<|qM rfl<|qJ rfl rfl ty22 ty3 (by omega)<|Od rfl rfl (Li rfl rfl (ni_at1 (k:=i) hc) ty3 rfl)<|qE rfl<|Nl ?_
  have ht:l.take (i + 1)=l.take i++[l[i]]:=by rw [List.take_add_one];simp [hc]
  by_cases he:v=gI l i
  ·have g2:(v == gI l i)=true:=by simpa using he
   refine Wt rfl ‹_›<|Wq<|qW 33 35 rfl<|qM rfl<|qA rfl<|Nl<|Wz ⟨.inl rfl,_,mt,Rc (Rt0 rfl) (Rv),aM,?_⟩
   refine ⟨?_,rfl⟩
   rw [gI_at hc] at he
   have hm:v∈l:=by rw [he];exact List.getElem_mem _
   have hx:l.idxOf v=i:=by
    rcases Nat.lt_trichotomy (l.idxOf v) i with h|h|h
    ·exfalso
     have h1:l[l.idxOf v]'(by omega)=v:=List.getElem_idxOf _
     refine hni ?_
     rw [List.mem_take_iff_getElem]
     exact ⟨l.idxOf v,by omega,h1⟩
    ·exact h
    ·exfalso
     have:=List.not_of_lt_findIdx (p:=(· == v)) (xs:=l) (i:=i) h
     simp [he] at this
   unfold idxF
   rw [if_pos hm,hx];rfl
  ·have g2:(v == gI l i)=false:=by simpa using he
   refine Wo rfl ‹_›<|Wu<|qW 39 41 rfl<|qZ rfl (iW _ (by omega))<|qM rfl<|Nl ?_
   rw [gI_at hc] at he
   refine WL.renameL [] 0 (by decide) ?_ ?_ (ihA (i + 1) (show l.length - (i + 1) < l.length - i from by omega) (show (i + 1)≤l.length∧v ∉ l.take (i + 1) from ⟨by omega,by rw [ht,List.mem_append,not_or];exact ⟨hni,by simpa using he⟩⟩))
   ·exact lC (lR rfl) (lC (lR rfl) (lC (lR rfl) (lC (lR rfl) lN)))
   ·exact aM
 ·have g1:decide ((i:Int) < (l.length:Int))=false:=decide_eq_false (by omega)
  refine Wq<|qW 12 13 rfl<|qK rfl<|Nl<|Wq<|Wo rfl ‹_›<|Wx ?_
  obtain rfl:i=l.length:=by omega
  rw [List.take_length] at hni
  refine Wq<|qW 45 46 rfl<|qA rfl<|Nl<|Wz ⟨.inl rfl,_,mt,Rc (Rt0 rfl) (Rv),aM,?_⟩
  exact ⟨by unfold idxF;rw [if_neg hni];rfl,rfl⟩
theorem contains_any (l:List Int) (v:Int) (hl:l.length≤9223372036854775807):AFn Tryz.prog 54 0 [.isl (intsC l) l.length,.base (.int .i64 v)] mt (.base (.bool (decide (v∈l)))) mt:=by
 refine AFn.eq Tryz.func54 rfl rfl (Nat.le_of_ble_eq_true rfl) ?_
 have hx:=index_any l v hl
 have hd:decide (idxF l v ≥ 0)=decide (v∈l):=by
  unfold idxF
  by_cases h:v∈l
  ·rw [if_pos h];simp [h]
  ·rw [if_neg h];simp [h]
 refine Wq<|qW 0 1 rfl<|qA rfl<|Nl<|Wq<|qW 5 10 rfl<|qM rfl<|qM rfl<|qY rfl (hx) fok99 rfl<|qGe rfl<|qA rfl<|Nl ?_
 rw [hd]
 refine Wz ⟨.inl rfl,_,mt,Rc (Rt0 rfl) (Rv),aM,?_⟩
 exact ⟨rfl,rfl⟩
def rowK (w:List Int) (a:Int) (out:List Int) (k:Nat):List Int:=(List.range out.length).map fun (j:Nat)=>if j < k∧(j:Int)∈w then IntKind.i64.wrap (gI out j + a) else gI out j
theorem rowK_len (w:List Int) (a:Int) (out:List Int) (k:Nat):(rowK w a out k).length=out.length:=by simp [rowK]
theorem rowK_zero (w:List Int) (a:Int) (out:List Int):rowK w a out 0=out:=by
 unfold rowK
 refine List.ext_getElem (by simp) fun k h1 h2=>?_
 simp [gI_at h2]
theorem rowK_at {w:List Int} {a:Int} {out:List Int} {k j:Nat} (h:j < out.length):gI (rowK w a out k) j=if j < k∧(j:Int)∈w then IntKind.i64.wrap (gI out j + a) else gI out j:=by
 unfold rowK;exact tab_at (g:=fun (x:Nat)=>if x < k∧(x:Int)∈w then IntKind.i64.wrap (gI out x + a) else gI out x) h
theorem rowK_in {w:List Int} {a:Int} {out:List Int} {k:Nat} (h:k < out.length) (hm:(k:Int)∈w):(rowK w a out k).set k (IntKind.i64.wrap (gI (rowK w a out k) k + a))=rowK w a out (k + 1):=by
 rw [rowK_at h,if_neg (by omega)]
 refine List.ext_getElem (by simp [rowK]) fun j h1 h2=>?_
 simp only [rowK,List.getElem_set,List.getElem_map,List.getElem_range]
 by_cases e:k=j
 ·subst e;simp [hm]
 ·rw [if_neg e]
  by_cases hj:j < k
  ·simp [hj,show j < k + 1 by omega]
  ·simp [hj,show ¬ j < k + 1 by omega]
theorem rowK_out {w:List Int} {a:Int} {out:List Int} {k:Nat} (hm:(k:Int) ∉ w):rowK w a out k=rowK w a out (k + 1):=by
 unfold rowK
 refine List.map_congr_left fun j _=>?_
 by_cases e:j=k
 ·subst e;simp [hm]
 ·by_cases hj:j < k
  ·simp [hj,show j < k + 1 by omega]
  ·simp [hj,show ¬ j < k + 1 by omega]
def loadsK (n:Nat) (ws:List (List Int)) (as_:List Int):Nat→List Int
 | 0=>List.replicate n 0
 | i + 1=>if i < as_.length then rowK (ws[i]?.getD []) (gI as_ i) (loadsK n ws as_ i) n else loadsK n ws as_ i
theorem loadsK_len (n:Nat) (ws:List (List Int)) (as_:List Int) (i:Nat):(loadsK n ws as_ i).length=n:=by
 induction i with
 | zero=>simp [loadsK]
 | succ i ih =>
  unfold loadsK
  split
  ·rw [rowK_len,ih]
  ·exact ih
theorem loadsK_stop {n:Nat} {ws:List (List Int)} {as_:List Int} {i:Nat} (h:as_.length≤i) (k:Nat) (hk:i≤k):loadsK n ws as_ k=loadsK n ws as_ i:=by
 induction k with
 | zero=>rw [show i=0 by omega]
 | succ k ih =>
  by_cases e:i=k + 1
  ·rw [e]
  ·rw [show loadsK n ws as_ (k + 1)=if k < as_.length then rowK (ws[k]?.getD []) (gI as_ k) (loadsK n ws as_ k) n else loadsK n ws as_ k from rfl,if_neg (by omega)]
   exact ih (by omega)
def loadsF (f:Fab) (ws:List (List Int)) (as_:List Int):List Int:=loadsK f.links.length ws as_ ws.length
set_option maxHeartbeats 1000000 in
theorem loads_any (f:Fab) (hn:f.links.length≤1000) (ws:List (List Int)) (as_:List Int) (hw:ws.length≤1000) (hws:∀ w∈ws,w.length≤9223372036854775807):AFn Tryz.prog 22 0 [.agg (fabC f),.isl (listsC ws) ws.length,.isl (intsC as_) as_.length] mt (intsV (loadsF f ws as_)) mt:=by
 refine AFn.eq Tryz.func22 rfl rfl (Nat.le_of_ble_eq_true rfl) ?_
 have hct:=contains_any
 obtain ⟨n,hnn⟩:∃ n,f.links.length=n:=⟨_,rfl⟩
 unfold loadsF fabC
 rw [hnn] at hn ⊢
 refine Wq<|qW 0 2 rfl<|qC rfl<|qA rfl<|Nl<|Wq<|qW 6 11 rfl<|qF rfl ty41 rfl<|qL rfl ty38 rfl<|qH rfl ty38<|Od rfl rfl (LO.makeSlice rfl rfl rfl rfl rfl ty22 ty3 (by decide) (by omega) (by omega) (by omega))<|qA rfl<|Nl ?_
 rw [zeros_ints]
 refine Wq<|Wq<|qW 15 18 rfl<|qM rfl<|qH rfl ty69<|qM rfl<|Nl<|Wb<|W.loop_keep (α:=Nat) (fun x=>ws.length - x) 1 (fun x=>[(7,.osl 0 0 n 1),(17,.base (.int .i64 (x:Int)))]) (fun x=>up mt 0 (some (intsC (loadsK n ws as_ x)))) (fun x=>x≤ws.length) 0 [(0,9)] (.cons (t:=2) rfl (by exact .inl rfl) (.cons (t:=15) rfl (by exact .inl rfl) (.cons (t:=16) rfl (by exact .inl rfl) .nil))) (show 0≤ws.length from Nat.zero_le _) (by decide) ?_ ?_ ?_
 ·exact lC (lI rfl) (lC (lR rfl) lN)
 ·exact aU (kP rfl (intsC_pure _)) aM
 rintro i hIA ihA
 try (dsimp only at hIA)
 try dsimp only [baseT,List.cons_append,List.nil_append]
 have hlk:=loadsK_len n ws as_ i
 have hlast:(i=ws.length∨as_.length≤i)→loadsK n ws as_ i=loadsK n ws as_ ws.length:=fun h=>by
  rcases h with h|h
  ·rw [h]
  ·exact (loadsK_stop h _ hIA).symm
 have hfin:∀ m,m=i→m=i:=fun m h=>h
 by_cases hc:i < ws.length
 ·have g1:decide ((i:Int) < (ws.length:Int))=true:=decide_eq_true (by omega)
  have hwi:=hws ws[i] (List.getElem_mem _)
  refine Wq<|qW 22 23 rfl<|qK rfl<|Nl<|Wq<|Wt rfl ‹_›<|Wu<|Wq<|Wb<|Wq<|qW 27 32 rfl<|qM rfl<|qJ rfl rfl ty69 ty22 (by omega)<|Od rfl rfl (Li rfl rfl (lists_at hc) ty22 rfl)<|qA rfl<|qA rfl<|Nl ?_
  by_cases hal:i < as_.length
  ·have g2:decide ((i:Int) ≥ (as_.length:Int))=false:=decide_eq_false (by omega)
   have hnx:loadsK n ws as_ (i + 1)=rowK ws[i] (gI as_ i) (loadsK n ws as_ i) n:=by
    rw [show loadsK n ws as_ (i + 1)=if i < as_.length then rowK (ws[i]?.getD []) (gI as_ i) (loadsK n ws as_ i) n else loadsK n ws as_ i from rfl,if_pos hal]
    simp [hc]
   obtain ⟨w,hwe⟩:∃ w,ws[i]=w:=⟨_,rfl⟩
   rw [hwe] at hnx hwi ⊢
   refine Wq<|Wq<|qW 36 40 rfl<|qM rfl<|qM rfl<|qH rfl ty22<|qGe rfl<|Nl<|Wo rfl ‹_›<|Wu<|Wq<|qW 44 47 rfl<|qM rfl<|Od rfl rfl (LO.len rfl rfl ty22)<|qM rfl<|Nl ?_
   have hz:intsC (loadsK n ws as_ i)=intsC (rowK w (gI as_ i) (loadsK n ws as_ i) 0):=by rw [rowK_zero]
   rw [hz]
   refine Wb<|W.loop_keep (α:=Nat) (fun x=>n - x) 1 (fun x=>[(7,.osl 0 0 n 1),(28,.base (.int .i64 (x:Int)))]) (fun x=>up mt 0 (some (intsC (rowK w (gI as_ i) (loadsK n ws as_ i) x)))) (fun x=>x≤n) 0 [(0,0)] (.cons (t:=2) rfl (by exact .inl rfl) (.cons (t:=8) rfl (by exact .inl rfl) (.cons (t:=9) rfl (by exact .inl rfl) (.cons (t:=15) rfl (by exact .inl rfl) (.cons (t:=16) rfl (by exact .inl rfl) (.cons (t:=17) rfl (by exact .inl rfl) (.cons (t:=27) rfl (by exact .inl rfl) .nil))))))) (show 0≤n from Nat.zero_le _) (by decide) ?_ ?_ ?_
   ·exact lC (lI rfl) (lC (lR rfl) lN)
   ·exact aU (kP rfl (intsC_pure _)) aM
   rintro k hIB ihB
   try (dsimp only at hIB)
   try dsimp only [baseT,List.cons_append,List.nil_append]
   have hrl:=rowK_len w (gI as_ i) (loadsK n ws as_ i) k
   rw [hlk] at hrl
   by_cases hk:k < n
   ·have g3:decide ((k:Int) < (n:Int))=true:=decide_eq_true (by omega)
    refine Wq<|qW 51 52 rfl<|qK rfl<|Nl<|Wq<|Wt rfl ‹_›<|Wu<|Wq<|Wb<|Wq<|qW 56 58 rfl<|qM rfl<|qA rfl<|Nl<|Wq<|qW 62 65 rfl<|qM rfl<|qM rfl<|qY rfl (hct w (k:Int) hwi) fok54 rfl<|Nl ?_
    by_cases hm:(k:Int)∈w
    ·have g4:decide ((k:Int)∈w)=true:=decide_eq_true hm
     have hri:=rowK_in (a:=gI as_ i) (out:=loadsK n ws as_ i) (by omega) hm
     refine Wt rfl ‹_›<|Wd 69 80 (by decide) rfl mixed rfl<|qM rfl<|qM rfl<|Od rfl rfl (Ia rfl rfl rfl rfl ty22 ty3 (by omega))<|Od rfl rfl (Ld rfl rfl rfl (ni_at (k:=k) (by omega)) ty3 rfl)<|qM rfl<|qM rfl<|qJ rfl rfl ty22 ty3 (by omega)<|Od rfl rfl (Li rfl rfl (ni_at1 (k:=i) hal) ty3 rfl)<|Od rfl rfl (LO.add rfl rfl rfl)<|Od rfl rfl (Ia rfl rfl rfl rfl ty22 ty3 (by omega))<|qS rfl ty3 (ns_at (k:=k) (by omega)) rfl<|Nl ⟨by kernel_rfl,?_⟩
     rw [hri]
     refine qW 84 86 rfl<|qZ rfl (iW _ (by omega))<|qM rfl<|Nl<|WL.renameL [(0,0)] 1 (by decide) ?_ ?_ (ihB (k + 1) (show n - (k + 1) < n - k from by omega) (show (k + 1)≤n from by omega))
     ·exact lC (lI rfl) (lC (lR rfl) (lC (lR rfl) (lC (lR rfl) (lC (lR rfl) (lC (lR rfl) (lC (lR rfl) (lC (lR rfl) (lC (lR rfl) lN))))))))
     ·exact aU (kP rfl (intsC_pure _)) aM
    ·have g4:decide ((k:Int)∈w)=false:=decide_eq_false hm
     refine Wo rfl ‹_›<|Wu ?_
     rw [rowK_out hm]
     refine qW 84 86 rfl<|qZ rfl (iW _ (by omega))<|qM rfl<|Nl<|WL.renameL [(0,0)] 1 (by decide) ?_ ?_ (ihB (k + 1) (show n - (k + 1) < n - k from by omega) (show (k + 1)≤n from by omega))
     ·exact lC (lI rfl) (lC (lR rfl) (lC (lR rfl) (lC (lR rfl) (lC (lR rfl) (lC (lR rfl) (lC (lR rfl) (lC (lR rfl) (lC (lR rfl) lN))))))))
     ·exact aU (kP rfl (intsC_pure _)) aM
   ·have g3:decide ((k:Int) < (n:Int))=false:=decide_eq_false (by omega)
    refine Wq<|qW 51 52 rfl<|qK rfl<|Nl<|Wq<|Wo rfl ‹_›<|Wx ?_
    obtain rfl:k=n:=by omega
    rw [← hnx]
    refine qW 90 92 rfl<|qZ rfl (iW _ (by omega))<|qM rfl<|Nl<|WL.renameL [(0,0)] 1 (by decide) ?_ ?_ (ihA (i + 1) (show ws.length - (i + 1) < ws.length - i from by omega) (show (i + 1)≤ws.length from by omega))
    ·exact lC (lI rfl) (lC (lR rfl) (lC (lR rfl) (lC (lR rfl) (lC (lR rfl) lN))))
    ·exact aU (kP rfl (intsC_pure _)) aM
  ·have g2:decide ((i:Int) ≥ (as_.length:Int))=true:=decide_eq_true (by omega)
   refine Wq<|Wq<|qW 36 40 rfl<|qM rfl<|qM rfl<|qH rfl ty22<|qGe rfl<|Nl<|Wt rfl ‹_›<|Wx ?_
   rw [hlast (.inr (by omega))]
   refine Wq<|qW 96 98 rfl<|qM rfl<|qA rfl<|Nl<|Wy (t:=6) rfl rfl (ints_tk (loadsK_len _ _ _ _)) (intsC_pure _)<|Wz ⟨.inl rfl,_,mt,Rc (Rt0 rfl) (Rv),aM,?_⟩
   exact ⟨by show AV.isl _ _=AV.isl _ _;rw [loadsK_len],rfl⟩
 ·have g1:decide ((i:Int) < (ws.length:Int))=false:=decide_eq_false (by omega)
  refine Wq<|qW 22 23 rfl<|qK rfl<|Nl<|Wq<|Wo rfl ‹_›<|Wx ?_
  rw [hlast (.inl (by omega))]
  refine Wq<|qW 96 98 rfl<|qM rfl<|qA rfl<|Nl<|Wy (t:=6) rfl rfl (ints_tk (loadsK_len _ _ _ _)) (intsC_pure _)<|Wz ⟨.inl rfl,_,mt,Rc (Rt0 rfl) (Rv),aM,?_⟩
  exact ⟨by show AV.isl _ _=AV.isl _ _;rw [loadsK_len],rfl⟩
theorem other_cases {l:Lnk} {x:Int} (h:(otherF l x).2=true):(x=l.a∧(otherF l x).1=l.b)∨(x≠l.a∧x=l.b∧(otherF l x).1=l.a):=by
 unfold otherF at h ⊢
 by_cases h1:x=l.a
 ·rw [if_pos h1];exact .inl ⟨h1,rfl⟩
 ·rw [if_neg h1] at h ⊢
  by_cases h2:x=l.b
  ·rw [if_pos h2];exact .inr ⟨h1,h2,rfl⟩
  ·rw [if_neg h2] at h;cases h
theorem way_first {f:Fab} {t h x:Int} (hp:0 < gI (dist f t) x) :
 ∃ (i:Nat) (y:Int) (hi:i < f.links.length),wkF f i=true∧gI (dist f t) y=gI (dist f t) x - 1∧wayL f (dist f t) h (gI (dist f t) x).toNat x=(i:Int)::wayL f (dist f t) h (gI (dist f t) y).toNat y ∧
  ((x=f.links[i].a∧y=f.links[i].b)∨(x=f.links[i].b∧y=f.links[i].a)):=by
 obtain ⟨h0,hk,hd,hl⟩:=way_next (h:=h) hp rfl
 obtain ⟨i,l,hi,hli,hpq,ho,hwk,_,h5⟩:=stepsK_mem (f:=f) (d:=dist f t) (at_:=x) (k:=f.links.length) (p:=(stepsK f (dist f t) x f.links.length)[pickN h (stepsK f (dist f t) x f.links.length).length]) (List.getElem_mem hk)
 have hs:gI (sndL (stepsK f (dist f t) x f.links.length)) (pickN h (stepsK f (dist f t) x f.links.length).length)=(otherF l x).1:=by
  rw [gI_at (by simpa [sndL] using hk)]
  simp [sndL,hpq]
 have hf1:gI (fstL (stepsK f (dist f t) x f.links.length)) (pickN h (stepsK f (dist f t) x f.links.length).length)=(i:Int):=by
  rw [gI_at (by simpa [fstL] using hk)]
  simp [fstL,hpq]
 rw [hs,hf1] at hl
 have e:f.links[i]=l:=by
  have:f.links[i]?=some f.links[i]:=by simp [hi]
  rw [this] at hli
  injection hli
 refine ⟨i,(otherF l x).1,hi,hwk,h5,hl,?_⟩
 rw [e]
 rcases other_cases ho with h|⟨_,h1,h2⟩
 ·exact .inl h
 ·exact .inr ⟨h1,h2⟩
theorem wayL_nd {f:Fab} {t h:Int}:∀ (m:Nat) (x:Int),0≤gI (dist f t) x→(gI (dist f t) x).toNat=m→(wayL f (dist f t) h m x).Nodup∧∀ z,z∈wayL f (dist f t) h m x→∃ i:Nat,z=(i:Int)∧i < f.links.length∧wkF f i=true∧∀ l,f.links[i]?=some l→gI (dist f t) l.a≤m∧gI (dist f t) l.b≤m:=by
 intro m
 induction m with
 | zero=>intro x _ _;exact ⟨List.nodup_nil,fun z hz=>by cases hz⟩
 | succ m ih =>
  intro x h0 hm
  obtain ⟨i,y,hi,hw,hy,hl,hab⟩:=way_first (f:=f) (t:=t) (h:=h) (x:=x) (by omega)
  rw [hm] at hl
  have hym:(gI (dist f t) y).toNat=m:=by omega
  rw [hym] at hl
  obtain ⟨g1,g2⟩:=ih y (by omega) hym
  have hlk:∀ l,f.links[i]?=some l→l=f.links[i]:=fun l e=>by
   have:f.links[i]?=some f.links[i]:=by simp [hi]
   rw [this] at e;injection e with e;exact e.symm
  rw [hl]
  refine ⟨List.nodup_cons.2 ⟨fun hz=>?_,g1⟩,fun z hz=>?_⟩
  ·obtain ⟨j,e,_,_,hj⟩:=g2 _ hz
   have:i=j:=by omega
   subst this
   have:=hj f.links[i] (by simp [hi])
   rcases hab with ⟨e1,e2⟩|⟨e1,e2⟩
   ·rw [← e1] at this;omega
   ·rw [← e1] at this;omega
  ·rcases List.mem_cons.1 hz with rfl|hz
   ·refine ⟨i,rfl,hi,hw,fun l e=>?_⟩
    rw [hlk l e]
    rcases hab with ⟨e1,e2⟩|⟨e1,e2⟩
    ·rw [← e1,← e2];omega
    ·rw [← e1,← e2];omega
   ·obtain ⟨j,e1,e2,e3,e4⟩:=g2 z hz
    exact ⟨j,e1,e2,e3,fun l e=>by have:=e4 l e;omega⟩
theorem sum_ind (a:Int) (x:Nat):∀ n:Nat,((List.range n).map fun j=>if j=x then a else 0).sum=if x < n then a else 0:=by
 intro n
 induction n with
 | zero=>rfl
 | succ n ih =>
  rw [List.range_succ,List.map_append,List.sum_append,ih]
  by_cases h:n=x
  ·subst h;simp
  ·by_cases h2:x < n
   ·rw [if_pos h2,if_pos (by omega)];simp [h]
   ·rw [if_neg h2,if_neg (by omega)];simp [h]
theorem sum_add2 (g k:Nat→Int):∀ l:List Nat,(l.map fun j=>g j + k j).sum=(l.map g).sum + (l.map k).sum:=by
 intro l
 induction l with
 | nil=>rfl
 | cons x l ih=>simp only [List.map_cons,List.sum_cons,ih];omega
theorem sum_mem (a:Int) (n:Nat):∀ w:List Int,w.Nodup→(∀ z,z∈w→∃ i:Nat,z=(i:Int)∧i < n)→((List.range n).map fun (j:Nat)=>if (j:Int)∈w then a else 0).sum=a * w.length:=by
 intro w
 induction w with
 | nil =>
  intro _ _
  have:∀ l:List Nat,(l.map fun (j:Nat)=>if (j:Int)∈([]:List Int) then a else 0).sum=0:=by
   intro l
   induction l with
   | nil=>rfl
   | cons x l ih=>rw [List.map_cons,List.sum_cons,ih];simp
  rw [this]
  simp
 | cons z w ih =>
  intro hn hz
  obtain ⟨i,rfl,hi⟩:=hz z (by simp)
  have hni:=(List.nodup_cons.1 hn).1
  have e:((List.range n).map fun (j:Nat)=>if (j:Int)∈(i:Int)::w then a else 0)=(List.range n).map fun (j:Nat)=>(if j=i then a else 0) + if (j:Int)∈w then a else 0:=by
   refine List.map_congr_left fun j _=>?_
   by_cases h:j=i
   ·subst h
    simp [hni]
   ·have:¬ ((j:Int)=(i:Int)):=by omega
    simp [h,this]
  rw [e,sum_add2 (fun j=>if j=i then a else 0) (fun (j:Nat)=>if (j:Int)∈w then a else 0),sum_ind,if_pos hi,ih (List.nodup_cons.1 hn).2 fun y hy=>hz y (by simp [hy])]
  rw [List.length_cons,Int.natCast_add,Int.mul_add]
  omega
theorem sum_row {w:List Int} {a:Int} {out:List Int} (hn:w.Nodup) (hz:∀ z,z∈w→∃ i:Nat,z=(i:Int)∧i < out.length) (hw:∀ j:Nat,IntKind.i64.wrap (gI out j + a)=gI out j + a):(rowK w a out out.length).sum=out.sum + a * w.length:=by
 have e:rowK w a out out.length=(List.range out.length).map fun (j:Nat)=>gI out j + if (j:Int)∈w then a else 0:=by
  unfold rowK
  refine List.map_congr_left fun j hj=>?_
  have hj:j < out.length:=by simpa using hj
  by_cases h:(j:Int)∈w
  ·rw [if_pos ⟨hj,h⟩,if_pos h,hw]
  ·rw [if_neg (fun e=>h e.2),if_neg h];omega
 have e2:(List.range out.length).map (fun (j:Nat)=>gI out j)=out:=by
  refine List.ext_getElem (by simp) fun k h1 h2=>?_
  simp [gI_at h2]
 rw [e,sum_add2 (fun (j:Nat)=>gI out j) (fun (j:Nat)=>if (j:Int)∈w then a else 0),e2,sum_mem a _ w hn hz]
def wantK (ws:List (List Int)) (as_:List Int):Nat→Int
 | 0=>0
 | k + 1=>wantK ws as_ k + gI as_ k * ((ws[k]?.getD []).length:Int)
theorem wantK_snoc (ws:List (List Int)) (as_:List Int) (w:List Int) (a:Int) (hl:as_.length=ws.length):∀ k,k≤ws.length→wantK (ws++[w]) (as_++[a]) k=wantK ws as_ k:=by
 intro k
 induction k with
 | zero=>intro _;rfl
 | succ k ih =>
  intro hk
  unfold wantK
  rw [ih (by omega),List.getElem?_append_left (by omega)]
  rw [gI_at (show k < (as_++[a]).length by simp;omega),gI_at (show k < as_.length by omega),List.getElem_append_left (by omega)]
theorem wantK_next (ws:List (List Int)) (as_:List Int) (w:List Int) (a:Int) (hl:as_.length=ws.length):wantK (ws++[w]) (as_++[a]) (ws.length + 1)=wantK ws as_ ws.length + a * w.length:=by
 show wantK (ws++[w]) (as_++[a]) ws.length + _=_
 rw [wantK_snoc ws as_ w a hl _ (Nat.le_refl _)]
 have e1:gI (as_++[a]) (ws.length:Nat)=a:=by
  rw [gI_at (show ws.length < (as_++[a]).length by simp;omega)]
  simp [hl]
 rw [e1]
 simp
structure WaysOK (f:Fab) (ws:List (List Int)) (as_:List Int):Prop where
 len:as_.length=ws.length
 nd:∀ w,w∈ws→w.Nodup∧w.length≤8∧∀ z,z∈w→∃ i:Nat,z=(i:Int)∧i < f.links.length∧wkF f i=true
 am:∀ a,a∈as_→0≤a∧a < 50
theorem WaysOK.nil {f:Fab}:WaysOK f [] []:=⟨rfl,fun w h=>(by cases h),fun a h=>(by cases h)⟩
theorem WaysOK.snoc {f:Fab} {ws:List (List Int)} {as_:List Int} {w:List Int} {a:Int} (h:WaysOK f ws as_) (h1:w.Nodup∧w.length≤8∧∀ z,z∈w→∃ i:Nat,z=(i:Int)∧i < f.links.length∧wkF f i=true) (h2:0≤a∧a < 50):WaysOK f (ws++[w]) (as_++[a]):=by
 refine ⟨by simp [h.len],fun x hx=>?_,fun x hx=>?_⟩
 ·rcases List.mem_append.1 hx with hx|hx
  ·exact h.nd x hx
  ·simp at hx;subst hx;exact h1
 ·rcases List.mem_append.1 hx with hx|hx
  ·exact h.am x hx
  ·simp at hx;subst hx;exact h2
theorem WaysOK.gI {f:Fab} {ws:List (List Int)} {as_:List Int} (h:WaysOK f ws as_) (k:Nat):0≤gI as_ k∧gI as_ k < 50∨¬ k < as_.length:=by
 by_cases hk:k < as_.length
 ·rw [gI_at hk];exact .inl (h.am _ (List.getElem_mem hk))
 ·exact .inr hk
theorem wantK_bd {f:Fab} {ws:List (List Int)} {as_:List Int} (h:WaysOK f ws as_):∀ k,k≤ws.length→0≤wantK ws as_ k∧wantK ws as_ k≤400 * k:=by
 intro k
 induction k with
 | zero=>intro _;exact ⟨Int.le_refl _,Int.le_refl _⟩
 | succ k ih =>
  intro hk
  have h1:=ih (by omega)
  have h2:=(h.gI k).resolve_right (by have:=h.len;omega)
  have h3:ws[k]?.getD []=ws[k]'(by omega):=by simp [show k < ws.length by omega]
  have h4:=(h.nd _ (List.getElem_mem (show k < ws.length by omega))).2.1
  unfold wantK
  rw [h3]
  have h5:gI as_ k * ((ws[k]'(by omega)).length:Int)≤50 * 8:=Int.mul_le_mul (by omega) (by omega) (by omega) (by omega)
  have h6:0≤gI as_ k * ((ws[k]'(by omega)).length:Int):=Int.mul_nonneg h2.1 (by omega)
  omega
theorem wrap_id {x:Int} (h0:0≤x) (h1:x≤1000000):IntKind.i64.wrap x=x:=by
 unfold IntKind.wrap;simp [IntKind.signed,IntKind.bits];omega
theorem loadsK_ok {f:Fab} {ws:List (List Int)} {as_:List Int} (h:WaysOK f ws as_) (hws:ws.length≤1000):∀ k,k≤ws.length →
 (loadsK f.links.length ws as_ k).sum=wantK ws as_ k∧∀ j:Nat,j < f.links.length→0≤gI (loadsK f.links.length ws as_ k) j∧gI (loadsK f.links.length ws as_ k) j≤50 * k∧(gI (loadsK f.links.length ws as_ k) j≠0→wkF f j=true):=by
 intro k
 induction k with
 | zero =>
  intro _
  refine ⟨?_,fun j hj=>?_⟩
  ·unfold loadsK wantK
   induction f.links.length with
   | zero=>rfl
   | succ n ih=>rw [List.replicate_succ,List.sum_cons,ih];rfl
  ·have:gI (loadsK f.links.length ws as_ 0) (j:Nat)=0:=by
    rw [gI_at (show j < (loadsK f.links.length ws as_ 0).length by rw [loadsK_len];exact hj)]
    simp [loadsK]
   rw [this]
   exact ⟨Int.le_refl _,Int.le_refl _,fun h=>absurd rfl h⟩
 | succ k ih =>
  intro hk
  obtain ⟨i1,i2⟩:=ih (by omega)
  have hka:k < as_.length:=by have:=h.len;omega
  have h2:=(h.gI k).resolve_right (by omega)
  have h3:ws[k]?.getD []=ws[k]'(by omega):=by simp [show k < ws.length by omega]
  obtain ⟨n1,n2,n3⟩:=h.nd _ (List.getElem_mem (show k < ws.length by omega))
  have hL:=loadsK_len f.links.length ws as_ k
  have hstep:loadsK f.links.length ws as_ (k + 1)=rowK (ws[k]'(by omega)) (gI as_ k) (loadsK f.links.length ws as_ k) (loadsK f.links.length ws as_ k).length:=by
   rw [show loadsK f.links.length ws as_ (k + 1)=if k < as_.length then rowK (ws[k]?.getD []) (gI as_ k) (loadsK f.links.length ws as_ k) f.links.length else loadsK f.links.length ws as_ k from rfl,if_pos hka,h3,hL]
  have hwr:∀ j:Nat,IntKind.i64.wrap (gI (loadsK f.links.length ws as_ k) j + gI as_ k)=gI (loadsK f.links.length ws as_ k) j + gI as_ k:=fun j=>by
   by_cases hj:j < f.links.length
   ·have:=i2 j hj
    exact wrap_id (by omega) (by omega)
   ·rw [gI_out (.inr (by rw [hL];omega))]
    have:∀ y:Int,0≤y→y < 50→IntKind.i64.wrap (-1 + y)=-1 + y:=fun y h0 h1=>by
     unfold IntKind.wrap;simp [IntKind.signed,IntKind.bits];omega
    exact this _ h2.1 h2.2
  rw [hstep]
  refine ⟨?_,fun j hj=>?_⟩
  ·rw [sum_row n1 (fun z hz=>by obtain ⟨i,e1,e2,_⟩:=n3 z hz;exact ⟨i,e1,by rw [hL];exact e2⟩) hwr,i1]
   rw [show wantK ws as_ (k + 1)=wantK ws as_ k + gI as_ k * ((ws[k]?.getD []).length:Int) from rfl,h3]
  ·rw [rowK_at (by rw [hL];exact hj)]
   have:=i2 j hj
   split
   ·rename_i hm
    rw [hwr]
    refine ⟨by omega,by omega,fun _=>?_⟩
    obtain ⟨i,e1,_,e3⟩:=n3 _ hm.2
    have:i=j:=by omega
    subst this
    exact e3
   ·exact ⟨by omega,by omega,this.2.2⟩
theorem loads_ok {f:Fab} {ws:List (List Int)} {as_:List Int} (h:WaysOK f ws as_) (hws:ws.length≤1000):(loadsF f ws as_).sum=wantK ws as_ ws.length∧∀ j:Nat,j < f.links.length→0≤gI (loadsF f ws as_) j∧gI (loadsF f ws as_) j≤50 * 1000∧(gI (loadsF f ws as_) j≠0→wkF f j=true):=by
 obtain ⟨h1,h2⟩:=loadsK_ok h hws ws.length (Nat.le_refl _)
 exact ⟨h1,fun j hj=>⟨(h2 j hj).1,by have:gI (loadsF f ws as_) j≤50 * (ws.length:Int):=(h2 j hj).2.1;omega,(h2 j hj).2.2⟩⟩
def gB (bs:List Int) (k:Nat):Int:=bs.getD k 0
structure Ad where
 v6:Bool
 hi:Int
 lo:Int
def hd4 (bs:List Int):Int:=gB bs 0 % 16 * 4
def adC (a:Ad):List AV:=[.base (.bool a.v6),.base (.int .u64 a.hi),.base (.int .u64 a.lo)]
def bytesC (l:List Int):List AV:=l.map fun z=>.base (.int .u8 z)
theorem bytesC_pure (l:List Int):(bytesC l).all AV.pure1=true:=by
 induction l with
 | nil=>rfl
 | cons x l ih=>rw [show bytesC (x::l)=[.base (.int .u8 x)]++bytesC l from rfl,List.all_append,ih];rfl
theorem bytesC_len (a:List Int):(bytesC a).length=a.length:=by simp [bytesC]
structure Prt where
 id:Int
 sw:Int
 speed:Int
 macs:List (List Int)
 v4:Ad
 v6:Ad
structure Mem where
 asn:Int
 name:ByteArray
 set:ByteArray
 max4:Int
 max6:Int
 ports:List Prt
structure Pre where
 ad:Ad
 len:Int
structure Db where
 lan4:Pre
 lan6:Pre
 servers:List Mem
 members:List Mem
def macsC (l:List (List Int)):List AV:=l.flatMap bytesC
def prtC (p:Prt):List AV:=[.base (.int .i64 p.id),.base (.int .i64 p.sw),.base (.int .i64 p.speed),.isl (macsC p.macs) p.macs.length]++adC p.v4++adC p.v6
def prtsC (l:List Prt):List AV:=l.flatMap prtC
def memC (m:Mem):List AV:=[.base (.int .i64 m.asn),.base (.string m.name),.base (.string m.set),.base (.int .i64 m.max4),.base (.int .i64 m.max6),.isl (prtsC m.ports) m.ports.length]
def memsC (l:List Mem):List AV:=l.flatMap memC
def preC (p:Pre):List AV:=adC p.ad++[.base (.int .i64 p.len)]
def dbC (d:Db):List AV:=preC d.lan4++preC d.lan6++[.isl (memsC d.servers) d.servers.length,.isl (memsC d.members) d.members.length]
theorem flat_tk {α:Type} {c:α→List AV} {n:Nat} (hc:∀ x,(c x).length=n) {l:List α} {k:Nat} (h:k < l.length):Tk (l.flatMap c) (k * n) n (c l[k]):=by
 refine ⟨hc _,fun j d hj=>?_⟩
 have hjn:j < n:=by have:=(List.getElem?_eq_some_iff.1 hj).1;rwa [hc] at this
 induction l generalizing k with
 | nil=>simp at h
 | cons x l ih =>
  rw [List.flatMap_cons]
  cases k with
  | zero =>
   rw [Nat.zero_mul,Nat.zero_add,List.getElem?_append_left (by rw [hc];exact hjn)]
   simpa using hj
  | succ k =>
   rw [show (k + 1) * n + j=n + (k * n + j) from by rw [Nat.succ_mul];omega]
   rw [List.getElem?_append_right (by rw [hc];omega),hc,show n + (k * n + j) - n=k * n + j from by omega]
   exact ih (by simpa using h) (by simpa using hj)
theorem prts_tk {l:List Prt} {k:Nat} (h:k < l.length):Tk (prtsC l) (k * 10) 10 (prtC l[k]):=flat_tk (c:=prtC) (fun _=>rfl) h
theorem mems_tk {l:List Mem} {k:Nat} (h:k < l.length):Tk (memsC l) (k * 6) 6 (memC l[k]):=flat_tk (c:=memC) (fun _=>rfl) h
end Go.Proofs.YtdflnmfjpoodlaaGreatDoor
namespace Go.Proofs.YtdflnmfjpoodlaaGreatDoor
open Go.RowKit
def eqA (a b:Ad):Bool:=a.v6 == b.v6 && (a.hi == b.hi && a.lo == b.lo)
theorem eqAd_in (d:Nat) (a b:Ad) (w:World):(Op.equalIn (d + 2) 27 (.agg #[.bool a.v6,.int .u64 a.hi,.int .u64 a.lo]) (.agg #[.bool b.v6,.int .u64 b.hi,.int .u64 b.lo])).run Tryz.prog w=.ok (eqA a b) w:=by
 rw [run_equalIn_struct w (d + 1) 27 _ _ (by kernel_rfl) (by kernel_rfl)]
 have hu:=Tryz.underlying27
 have hb:=Tryz.underlying4
 have hi:=Tryz.underlying25
 simp [Program.fieldsOf,hu,Op.eqFields,part,isAgg,run_underlying hb,run_underlying hi,run_equalIn_bool' _ _ _ _ _ hb,run_equalIn_int _ _ _ _ _ _ _ hi]
 unfold eqA
 by_cases h1:a.v6=b.v6<;>by_cases h2:a.hi=b.hi<;>by_cases h3:a.lo=b.lo<;>simp [h1,h2,h3]
theorem eqMac_in (d:Nat) {a b:List Int} (ha:a.length=6) (hb:b.length=6) (w:World):(Op.equalIn (d + 2) 55 (.agg (a.map (Value.int .u8)).toArray) (.agg (b.map (Value.int .u8)).toArray)).run Tryz.prog w=.ok (decide (a=b)) w:=by
 have hu:=Tryz.underlying55
 have hi:=Tryz.underlying5
 match a,ha,b,hb with
 | [a0,a1,a2,a3,a4,a5],_,[b0,b1,b2,b3,b4,b5],_ =>
  have hsz:∀ w:World,(sizeOf 5).run Tryz.prog w=.ok 1 w:=fun w=>(ty5).sizeOf w
  unfold Op.equalIn
  simp [run_underlying hu,hsz,part,isAgg,run_underlying hi,run_equalIn_int _ _ _ _ _ _ _ hi,Std.Legacy.Range.forIn_eq_forIn_range',Std.Legacy.Range.size,List.range'_succ]
  by_cases h0:a0=b0<;>by_cases h1:a1=b1<;>by_cases h2:a2=b2<;>by_cases h3:a3=b3<;>by_cases h4:a4=b4<;>by_cases h5:a5=b5<;>simp [h0,h1,h2,h3,h4,h5]
section
variable {o:Oper} {E:Operand→Option AV} {H:Hp} {f:Nat} {ty:TypeId} {x y:Operand}
end
end Go.Proofs.YtdflnmfjpoodlaaGreatDoor
namespace Go.Proofs.YtdflnmfjpoodlaaGreatDoor
open Go.RowKit
theorem memsC_len (l:List Mem):(memsC l).length=l.length * 6:=by
 induction l with
 | nil=>rfl
 | cons x l ih=>rw [show memsC (x::l)=memC x++memsC l from rfl,List.length_append,ih,show (memC x).length=6 from rfl,List.length_cons];omega
theorem memsC_pure (l:List Mem):(memsC l).all AV.pure1=true:=by
 induction l with
 | nil=>rfl
 | cons x l ih=>rw [show memsC (x::l)=memC x++memsC l from rfl,List.all_append,ih];rfl
theorem mems_all {l:List Mem} {n:Nat} (h:l.length=n):Tk (memsC l) 0 (n * 6) (memsC l):=by
 have:=Tk.all (memsC l)
 rwa [memsC_len,h] at this
theorem all_any (d:Db) (h1:d.servers.length≤1000) (h2:d.members.length≤1000):AFn Tryz.prog 69 0 [.agg (dbC d)] mt (.isl (memsC (d.servers++d.members)) (d.servers++d.members).length) mt:=by
 refine AFn.eq Tryz.func69 rfl rfl (Nat.le_of_ble_eq_true rfl)<|Wq<|qW 0 2 rfl<|qC rfl<|qA rfl<|Nl<|Wq<|Wd 6 13 (by decide) rfl mixed rfl<|qF rfl ty32 rfl<|qL rfl ty30 rfl<|Od rfl rfl (Lan rfl rfl (Ssi rfl rfl (memsC_len _)) ty30 ty30 ty91 (by decide) (by omega) (by omega) (by decide))<|qF rfl ty32 rfl<|qL rfl ty30 rfl<|Od rfl rfl (Lap rfl rfl (Ssi rfl rfl (memsC_len _)) rfl (mems_all rfl) ty30 ty30 ty91 (by decide) (by omega) (by omega) (by decide))<|qA rfl<|Nl ⟨by kernel_rfl,?_⟩
 rw [show memsC d.servers++memsC d.members=memsC (d.servers++d.members) from by simp [memsC],show d.servers.length + d.members.length=(d.servers++d.members).length from by simp]
 refine Wy (t:=2) rfl rfl (mems_all rfl) (memsC_pure _)<|Wz ⟨.inl rfl,_,mt,Rc (Rt0 rfl) (Rv),aM,?_⟩
 exact ⟨rfl,rfl⟩
end Go.Proofs.YtdflnmfjpoodlaaGreatDoor
namespace Go.Proofs.YtdflnmfjpoodlaaGreatDoor
open Go.RowKit
theorem macsC_len {l:List (List Int)} (h:∀ m,m∈l→m.length=6):(macsC l).length=l.length * 6:=by
 induction l with
 | nil=>rfl
 | cons x l ih=>rw [show macsC (x::l)=bytesC x++macsC l from rfl,List.length_append,ih (fun m hm=>h m (by simp [hm])),bytesC_len,h x (by simp),List.length_cons];omega
theorem macsC_pure (l:List (List Int)):(macsC l).all AV.pure1=true:=flatPure (fun m=>bytesC_pure m) l
theorem macs_all {l:List (List Int)} (h:∀ m,m∈l→m.length=6):Tk (macsC l) 0 (l.length * 6) (macsC l):=by
 have:=Tk.all (macsC l)
 rwa [macsC_len h] at this
theorem prtsC_pure (l:List Prt):(prtsC l).all AV.pure1=true:=flatPure (fun _=>rfl) l
theorem prts_all {l:List Prt} {n:Nat} (h:l.length=n):Tk (prtsC l) 0 (n * 10) (prtsC l):=flatAll (c:=prtC) (fun _=>rfl) h
theorem copyPort_any (p:Prt) (hm:∀ m,m∈p.macs→m.length=6) (hn:p.macs.length≤1000):AFn Tryz.prog 70 0 [.agg (prtC p)] mt (.agg (prtC p)) mt:=by
 refine AFn.eq Tryz.func70 rfl rfl (Nat.le_of_ble_eq_true rfl) ?_
 obtain ⟨id,sw,sp,ms,v4,v6⟩:=p
 dsimp only at hm hn
 have hl:=macsC_len hm
 refine Wq<|qW 0 2 rfl<|qC rfl<|qB rfl ty137<|Nl<|Wq<|qW 6 11 rfl<|qF rfl ty137 rfl<|qL rfl ty49 rfl<|Od rfl rfl (Lan rfl rfl (Ssi rfl rfl hl) ty49 ty49 ty55 (by decide) (by dsimp only;omega) (by dsimp only;omega) (by decide))<|qF rfl ty137 rfl<|qS rfl ty49 (Sl rfl) rfl<|Nl<|Wv (q:=0) (j:=3) (r:=8) rfl rfl (by decide) rfl (macs_all hm) (macsC_pure _) (Sl rfl)<|Wq<|qW 15 17 rfl<|qG rfl ty137 rfl (Tl rfl)<|qS rfl ty137 (Sl rfl) rfl<|Nl<|Wz ⟨.inl rfl,_,mt,(Rc (Ra0 rfl rfl ty137 rfl (Tl rfl)) Rv),aM,?_⟩
 exact ⟨rfl,rfl⟩
def allP (d:Db):List Prt:=(d.servers++d.members).flatMap (·.ports)
structure PrtS (p:Prt):Prop where
 nm:p.macs.length≤2
 macs:∀ m,m∈p.macs→m.length=6
structure MemS (m:Mem):Prop where
 np:m.ports.length≤4
 ports:∀ p,p∈m.ports→PrtS p
structure DbS (d:Db):Prop where
 ns:d.servers.length≤4
 nm:d.members.length≤32
 mem:∀ m,m∈d.servers++d.members→MemS m
def selP (L:List Prt) (n:Nat):List Prt:=L.filter fun p=>p.id == (n:Int)
def portsOf (d:Db):List Prt:=(List.range 1000).flatMap (selP (allP d))
theorem selP_app (a b:List Prt) (n:Nat):selP (a++b) n=selP a n++selP b n:=List.filter_append ..
set_option maxHeartbeats 1000000 in
theorem portsS_any (d:Db) (hd:DbS d) (hs:(portsOf d).length≤1000):AFn Tryz.prog 27 0 [.agg (dbC d)] mt (.isl (prtsC (portsOf d)) (portsOf d).length) mt:=by
 refine AFn.eq Tryz.func27 rfl rfl (Nat.le_of_ble_eq_true rfl) ?_
 have h4:=hd.ns
 have h32:=hd.nm
 have hmem:=hd.mem
 have hall:=all_any d (by omega) (by omega)
 unfold portsOf allP at hs ⊢
 obtain ⟨A,hA⟩:∃ A,A=d.servers++d.members:=⟨_,rfl⟩
 rw [← hA] at hall hmem hs ⊢
 obtain ⟨Z,hZ⟩:∃ Z,Z=A.flatMap (·.ports):=⟨_,rfl⟩
 rw [← hZ] at hs ⊢
 have hAl:A.length≤2000:=by rw [hA,List.length_append];omega
 refine Wq<|qW 0 2 rfl<|qC rfl<|qA rfl<|Nl<|Wq<|qW 6 7 rfl<|qA rfl<|Nl<|Wq<|Wq<|qW 11 12 rfl<|qA rfl<|Nl<|W.name 12 (12 + 1) (t:=3) (sz:=10) rfl (by decide) (by decide)<|Wb<|W.rename [(0,0),(1,12)] 2 (T':=up (up (up mt 1 (some (.own 0 0))) 3 (some (.osl 1 0 ((List.range 0).flatMap (selP Z)).length 10))) 4 (some (.base (.int .i64 (0:Int))))) (H':=up (up mt 0 (some (dbC d))) 1 (some (prtsC ((List.range 0).flatMap (selP Z))))) (by decide) ?_ ?_ ?_
 ·exact aU (lR rfl) (aU (lI rfl) (aU (lI rfl) aM))
 ·exact aU (kR rfl) (aU (kR rfl) aM)
 refine W.loop_ind (α:=Nat) (fun x=>1000 - x) 2 (fun x=>up (up (up mt 1 (some (.own 0 0))) 3 (some (.osl 1 0 ((List.range x).flatMap (selP Z)).length 10))) 4 (some (.base (.int .i64 (x:Int))))) (fun x=>up (up mt 0 (some (dbC d))) 1 (some (prtsC ((List.range x).flatMap (selP Z))))) (fun x=>x≤1000) 0 (show 0≤1000 from Nat.zero_le _) ?_
 rintro n hIA ihA
 try (dsimp only at hIA)
 try dsimp only
 by_cases hc:n < 1000
 ·have g1:decide ((n:Int)≤999)=true:=decide_eq_true (by omega)
  have hpre:∀ X Y:List Prt,selP Z n=X++Y→((List.range n).flatMap (selP Z)++X).length≤1000:=fun X Y e=>by
   obtain ⟨k,hk⟩:∃ k,1000=n + 1 + k:=⟨1000 - (n + 1),by omega⟩
   rw [hk,List.range_add,List.flatMap_append,List.range_succ,List.flatMap_append] at hs
   simp only [List.flatMap_cons,List.flatMap_nil,List.append_nil,e,List.length_append] at hs ⊢
   omega
  have hnext:(List.range n).flatMap (selP Z)++selP Z n=(List.range (n + 1)).flatMap (selP Z):=by
   rw [List.range_succ,List.flatMap_append];simp
  generalize (List.range n).flatMap (selP Z)=R at *
  refine Wq<|Wq<|qW 16 18 rfl<|qM rfl<|qLe rfl<|Nl<|Wt rfl ‹_›<|Wu<|Wq<|Wb<|Wq<|qW 22 26 rfl<|qG rfl ty32 rfl (Tl rfl)<|qY rfl (hall) fok69 rfl<|qH rfl ty30<|qM rfl<|Nl ?_
  rw [show R=R++selP ((A.take 0).flatMap (·.ports)) n from by simp [selP]]
  refine Wb<|W.rename [(0,0),(1,1)] 2 (T':=up (up (up (up (up (up mt 1 (some (.own 0 0))) 3 (some (.osl 1 0 (R++selP ((A.take 0).flatMap (·.ports)) n).length 10))) 4 (some (.base (.int .i64 (n:Int))))) 14 (some (.isl (memsC A) A.length))) 15 (some (.base (.int .i64 (A.length:Int))))) 16 (some (.base (.int .i64 (0:Int))))) (H':=up (up mt 0 (some (dbC d))) 1 (some (prtsC (R++selP ((A.take 0).flatMap (·.ports)) n)))) (by decide) ?_ ?_ ?_
  ·exact aU (lR rfl) (aU (lR rfl) (aU (lR rfl) (aU (lR rfl) (aU (lI rfl) (aU (lI rfl) aM)))))
  ·exact aU (kP rfl (prtsC_pure _)) (aU (kR rfl) aM)
  refine W.loop_ind (α:=Nat) (fun x=>A.length - x) 2 (fun x=>up (up (up (up (up (up mt 1 (some (.own 0 0))) 3 (some (.osl 1 0 (R++selP ((A.take x).flatMap (·.ports)) n).length 10))) 4 (some (.base (.int .i64 (n:Int))))) 14 (some (.isl (memsC A) A.length))) 15 (some (.base (.int .i64 (A.length:Int))))) 16 (some (.base (.int .i64 (x:Int))))) (fun x=>up (up mt 0 (some (dbC d))) 1 (some (prtsC (R++selP ((A.take x).flatMap (·.ports)) n)))) (fun x=>x≤A.length) 0 (show 0≤A.length from Nat.zero_le _) ?_
  rintro i hIB ihB
  try (dsimp only at hIB)
  try dsimp only
  by_cases hc2:i < A.length
  ·have g2:decide ((i:Int) < (A.length:Int))=true:=decide_eq_true (by omega)
   have hm:=hmem _ (List.getElem_mem hc2)
   have hps:=hm.ports
   have hnp:=hm.np
   have hfl:(A.take (i + 1)).flatMap (·.ports)=(A.take i).flatMap (·.ports)++A[i].ports:=by
    rw [List.take_add_one,List.flatMap_append]
    simp [hc2]
   have hsp:∃ Y,Z=((A.take i).flatMap (·.ports)++A[i].ports)++Y:=⟨(A.drop (i + 1)).flatMap (·.ports),by
    rw [hZ,← hfl,← List.flatMap_append,List.take_append_drop]⟩
   obtain ⟨Y,hsp⟩:=hsp
   refine Wq<|qW 30 31 rfl<|qK rfl<|Nl<|Wq<|Wt rfl ‹_›<|Wu<|Wq<|Wb<|Wq<|qW 35 39 rfl<|qJ rfl rfl ty30 ty91 (by omega)<|Od rfl rfl (Lg rfl rfl ty91 rfl (mems_tk hc2))<|qB rfl ty91<|qS rfl ty91 (Sl rfl) rfl<|Nl<|Wq<|qW 43 47 rfl<|qF rfl ty91 rfl<|qL rfl ty86 rfl<|qH rfl ty86<|qM rfl<|Nl ?_
   generalize A[i].ports=ps at *
   generalize (A.take i).flatMap (·.ports)=X at *
   rw [show X=X++ps.take 0 from by simp]
   refine Wb<|W.rename [(0,0),(1,1)] 2 (T':=up (up (up (up (up (up (up (up (up mt 1 (some (.own 0 0))) 3 (some (.osl 1 0 (R++selP (X++ps.take 0) n).length 10))) 4 (some (.base (.int .i64 (n:Int))))) 14 (some (.isl (memsC A) A.length))) 15 (some (.base (.int .i64 (A.length:Int))))) 16 (some (.base (.int .i64 (i:Int))))) 21 (some (.isl (prtsC ps) ps.length))) 22 (some (.base (.int .i64 (ps.length:Int))))) 23 (some (.base (.int .i64 (0:Int))))) (H':=up (up mt 0 (some (dbC d))) 1 (some (prtsC (R++selP (X++ps.take 0) n)))) (by decide) ?_ ?_ ?_
   ·exact aU (lR rfl) (aU (lR rfl) (aU (lR rfl) (aU (lR rfl) (aU (lR rfl) (aU (lR rfl) (aU (lR rfl) (aU (lI rfl) (aU (lI rfl) aM))))))))
   ·exact aU (kP rfl (prtsC_pure _)) (aU (kR rfl) aM)
   refine W.loop_ind (α:=Nat) (fun x=>ps.length - x) 2 (fun x=>up (up (up (up (up (up (up (up (up mt 1 (some (.own 0 0))) 3 (some (.osl 1 0 (R++selP (X++ps.take x) n).length 10))) 4 (some (.base (.int .i64 (n:Int))))) 14 (some (.isl (memsC A) A.length))) 15 (some (.base (.int .i64 (A.length:Int))))) 16 (some (.base (.int .i64 (i:Int))))) 21 (some (.isl (prtsC ps) ps.length))) 22 (some (.base (.int .i64 (ps.length:Int))))) 23 (some (.base (.int .i64 (x:Int))))) (fun x=>up (up mt 0 (some (dbC d))) 1 (some (prtsC (R++selP (X++ps.take x) n)))) (fun x=>x≤ps.length) 0 (show 0≤ps.length from Nat.zero_le _) ?_
   rintro j hIC ihC
   try (dsimp only at hIC)
   try dsimp only
   by_cases hc3:j < ps.length
   ·have g3:decide ((j:Int) < (ps.length:Int))=true:=decide_eq_true (by omega)
    have hQ:X++ps.take (j + 1)=(X++ps.take j)++[ps[j]]:=by rw [List.take_add_one,← List.append_assoc];simp [hc3]
    have hlen:(R++selP (X++ps.take (j + 1)) n).length≤1000:=hpre _ (selP (ps.drop (j + 1)++Y) n) (by
     rw [← selP_app,hsp]
     congr 1
     conv=>lhs;rw [← List.take_append_drop (j + 1) ps]
     simp only [List.append_assoc])
    have hpo:=hps _ (List.getElem_mem hc3)
    have hcp:=copyPort_any ps[j] (fun m h=>hpo.macs m h) (by have:=hpo.nm;omega)
    rw [hQ] at hlen
    refine Wq<|qW 51 52 rfl<|qK rfl<|Nl<|Wq<|Wt rfl ‹_›<|Wu<|Wq<|Wb<|Wq<|qW 56 60 rfl<|qJ rfl rfl ty86 ty137 (by omega)<|Od rfl rfl (Lg rfl rfl ty137 rfl (prts_tk hc3))<|qB rfl ty137<|qS rfl ty137 (Sl rfl) rfl<|Nl ?_
    generalize ps[j]=p at *
    generalize X++ps.take j=Q at *
    cases he:(p.id == (n:Int))
    ·have e:R++selP Q n=R++selP (X++ps.take (j + 1)) n:=by
      rw [hQ,selP_app,show selP [p] n=[] from by simp [selP,he],List.append_nil]
     refine Wq<|qW 64 68 rfl<|qF rfl ty137 rfl<|qL rfl ty3 rfl<|qM rfl<|qE rfl<|Nl<|Wo rfl ‹_›<|Wu<|qW 82 84 rfl<|qZ rfl (iW _ (by omega))<|qM rfl<|Nl ?_
     rw [e]
     refine WL.rename [(0,0),(1,1)] 2 (by decide) ?_ ?_ (ihC (j + 1) (show ps.length - (j + 1) < ps.length - j from by omega) (show (j + 1)≤ps.length from by omega))
     ·exact aU (lR rfl) (aU (lR rfl) (aU (lR rfl) (aU (lR rfl) (aU (lR rfl) (aU (lR rfl) (aU (lR rfl) (aU (lI rfl) (aU (lI rfl) aM))))))))
     ·exact aU (kP rfl (prtsC_pure _)) (aU (kR rfl) aM)
    ·have e:(R++selP Q n)++[p]=R++selP (X++ps.take (j + 1)) n:=by
      rw [hQ,selP_app,show selP [p] n=[p] from by simp [selP,he],List.append_assoc]
     rw [selP_app,show selP [p] n=[p] from by simp [selP,he],← List.append_assoc,List.length_append,List.length_singleton] at hlen
     generalize R++selP Q n=B at *
     refine Wq<|qW 64 68 rfl<|qF rfl ty137 rfl<|qL rfl ty3 rfl<|qM rfl<|qE rfl<|Nl<|Wt rfl ‹_›<|qW 72 78 rfl<|qM rfl<|qG rfl ty137 rfl (Tl rfl)<|qY rfl (hcp) fok70 rfl<|Od rfl rfl (LO.buildSlice rfl ty86 ty137 (by decide) (by decide) (.cons rfl rfl rfl rfl (Sl rfl) .nil))<|Od rfl rfl (Lap rfl rfl (Sso rfl rfl (Tl rfl)) rfl (prts_all rfl) ty86 ty86 ty137 (by decide) (by omega) (by omega) (by decide))<|qA rfl<|Nl ?_
     rw [show prtsC B++[.base (.int .i64 p.id),.base (.int .i64 p.sw),.base (.int .i64 p.speed),.isl (macsC p.macs) p.macs.length,.base (.bool p.v4.v6),.base (.int .u64 p.v4.hi),.base (.int .u64 p.v4.lo),.base (.bool p.v6.v6),.base (.int .u64 p.v6.hi),.base (.int .u64 p.v6.lo)]=prtsC (B++[p]) from by simp [prtsC,prtC,adC],show B.length + 1=(B++[p]).length from by simp,e]
     refine qW 82 84 rfl<|qZ rfl (iW _ (by omega))<|qM rfl<|Nl<|WL.rename [(0,0),(1,76)] 2 (by decide) ?_ ?_ (ihC (j + 1) (show ps.length - (j + 1) < ps.length - j from by omega) (show (j + 1)≤ps.length from by omega))
     ·exact aU (lR rfl) (aU (lR rfl) (aU (lR rfl) (aU (lR rfl) (aU (lR rfl) (aU (lR rfl) (aU (lR rfl) (aU (lI rfl) (aU (lI rfl) aM))))))))
     ·exact aU (kP rfl (prtsC_pure _)) (aU (kR rfl) aM)
   ·have g3:decide ((j:Int) < (ps.length:Int))=false:=decide_eq_false (by omega)
    refine Wq<|qW 51 52 rfl<|qK rfl<|Nl<|Wq<|Wo rfl ‹_›<|Wx ?_
    clear ihC
    obtain rfl:j=ps.length:=by omega
    rw [List.take_length,← hfl]
    refine qW 88 90 rfl<|qZ rfl (iW _ (by omega))<|qM rfl<|Nl<|WL.rename [(0,0),(1,1)] 2 (by decide) ?_ ?_ (ihB (i + 1) (show A.length - (i + 1) < A.length - i from by omega) (show (i + 1)≤A.length from by omega))
    ·exact aU (lR rfl) (aU (lR rfl) (aU (lR rfl) (aU (lR rfl) (aU (lI rfl) (aU (lI rfl) aM)))))
    ·exact aU (kP rfl (prtsC_pure _)) (aU (kR rfl) aM)
  ·have g2:decide ((i:Int) < (A.length:Int))=false:=decide_eq_false (by omega)
   refine Wq<|qW 30 31 rfl<|qK rfl<|Nl<|Wq<|Wo rfl ‹_›<|Wx ?_
   clear ihB
   obtain rfl:i=A.length:=by omega
   rw [List.take_length,← hZ,hnext]
   refine qW 94 97 rfl<|qM rfl<|qZ rfl (iW _ (by omega))<|qA rfl<|Nl<|WL.rename [(0,0),(1,1)] 2 (by decide) ?_ ?_ (ihA (n + 1) (show 1000 - (n + 1) < 1000 - n from by omega) (show (n + 1)≤1000 from by omega))
   ·exact aU (lR rfl) (aU (lI rfl) (aU (lI rfl) aM))
   ·exact aU (kP rfl (prtsC_pure _)) (aU (kR rfl) aM)
 ·have g1:decide ((n:Int)≤999)=false:=decide_eq_false (by omega)
  refine Wq<|Wq<|qW 16 18 rfl<|qM rfl<|qLe rfl<|Nl<|Wo rfl ‹_›<|Wx ?_
  clear ihA
  obtain rfl:n=1000:=by omega
  refine Wq<|qW 101 103 rfl<|qM rfl<|qA rfl<|Nl<|Wy (t:=2) rfl rfl (prts_all rfl) (prtsC_pure _)<|Wz ⟨.inl rfl,_,mt,Rc (Rt0 rfl) (Rv),aM,?_⟩
  exact ⟨rfl,rfl⟩
end Go.Proofs.YtdflnmfjpoodlaaGreatDoor
