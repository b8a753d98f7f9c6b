/-
  The way between two switches: both texts. The way between two switches: the document's text. The hash of two addresses; the example of chapter 14. FabricFails returns true. Chapter 14: the document's hash, addresses of stations, the example, ways by the program and by the document. The rule of a port, budgets, and what becomes of a frame; by the program and by the document. The setting of chapter 14; deliveries that are the same; whom a frame reaches is there. ForwardBelongs: its law. ForwardQuiet: its law. ForwardSends: its law.
-/
import Derived.Test.YtlcndmciognneaaGreatDoorGb
import Derived.Test.YtlcndmciognneaaGreatDoorMab
import Derived.Test.YtlcndmciognneaaGreatDoorQj
import Derived.Test.YtlcndmciognneaaGreatDoorWf
namespace Go.Proofs.YtlcndmciognneaaGreatDoor
open Go.RowKit
def otherF (l:Lnk) (at_:Int):Int × Bool:=if at_=l.a then (l.b,true) else if at_=l.b then (l.a,true) else (0,false)
def stepB (f:Fab) (d:List Int) (at_:Int) (i:Nat):Option (Int × Int):=match f.links[i]? with
  | none=>none
  | some l=>if (otherF l at_).2=true∧wkF f i=true∧0≤gI d at_∧gI d (otherF l at_).1=gI d at_ - 1 then some ((i:Int),(otherF l at_).1) else none
def stepsK (f:Fab) (d:List Int) (at_:Int) (k:Nat):List (Int × Int):=(List.range k).filterMap (stepB f d at_)
def optL {α:Type}:Option α→List α
  | none=>[]
  | some a=>[a]
theorem stepsK_succ (f:Fab) (d:List Int) (at_:Int) (k:Nat):stepsK f d at_ (k + 1)=stepsK f d at_ k++optL (stepB f d at_ k):=by
  unfold stepsK
  rw [List.range_succ,List.filterMap_append]
  cases h:stepB f d at_ k<;>simp [h,optL]
theorem stepsK_len (f:Fab) (d:List Int) (at_:Int) (k:Nat):(stepsK f d at_ k).length≤k:=by
  unfold stepsK
  exact Nat.le_trans (List.length_filterMap_le _ _) (by simp)
def fstL (l:List (Int × Int)):List Int:=l.map (·.1)
def sndL (l:List (Int × Int)):List Int:=l.map (·.2)
def pickN (h:Int) (n:Nat):Nat:=((if 0 < h then h else 0) % (n:Int)).toNat
def wayL (f:Fab) (d:List Int) (h:Int):Nat→Int→List Int
  | 0,_=>[]
  | m + 1,at_=>gI (fstL (stepsK f d at_ f.links.length)) (pickN h (stepsK f d at_ f.links.length).length)::wayL f d h m (gI (sndL (stepsK f d at_ f.links.length)) (pickN h (stepsK f d at_ f.links.length).length))
def wayF (f:Fab) (frm to h:Int):Option (List Int):=if 0≤gI (dist f to) frm then some (wayL f (dist f to) h (gI (dist f to) frm).toNat frm) else none
def wayV (w:Option (List Int)):AV:=.tup [intsV (w.getD []),.base (.bool w.isSome)]
theorem pickN_lt (h:Int) {n:Nat} (hn:0 < n):pickN h n < n:=by
  unfold pickN
  have h1:(if 0 < h then h else 0) % (n:Int) < n:=Int.emod_lt_of_pos _ (by omega)
  have h2:0≤(if 0 < h then h else 0) % (n:Int):=Int.emod_nonneg _ (by omega)
  omega
theorem pickN_eq (h:Int) {n:Nat} (hn:0 < n):(if 0 < h then h else 0) % (n:Int)=(pickN h n:Nat):=by
  unfold pickN
  have h2:0≤(if 0 < h then h else 0) % (n:Int):=Int.emod_nonneg _ (by omega)
  omega
theorem gI_range {d:List Int} {x:Int} (h:0≤gI d x):0≤x∧x < d.length:=by
  rcases Int.lt_or_le x 0 with h1|h1
  · rw [gI_out (.inl h1)] at h;omega
  · rcases Int.lt_or_le x d.length with h2|h2
    · exact ⟨h1,h2⟩
    · rw [gI_out (.inr h2)] at h;omega
theorem stepsK_mem {f:Fab} {d:List Int} {at_:Int} {k:Nat} {p:Int × Int} (h:p∈stepsK f d at_ k):∃ i l,i < k∧f.links[i]?=some l∧p=((i:Int),(otherF l at_).1)∧(otherF l at_).2=true∧wkF f i=true∧0≤gI d at_∧gI d (otherF l at_).1=gI d at_ - 1:=by
  unfold stepsK at h
  rw [List.mem_filterMap] at h
  obtain ⟨i,hi,h⟩:=h
  unfold stepB at h
  cases hl:f.links[i]? with
  | none=>rw [hl] at h;cases h
  | some l =>
    rw [hl] at h
    dsimp only at h
    split at h
    · rename_i hc
      injection h with h
      exact ⟨i,l,by simpa using hi,hl,h.symm,hc⟩
    · cases h
theorem steps_ne {f:Fab} {to at_:Int} (h:0 < gI (dist f to) at_):stepsK f (dist f to) at_ f.links.length≠[]:=by
  obtain ⟨y,⟨i,l,hl,hW,h3⟩,h1⟩:=(dist_ok (dist_alive (f:=f) (t:=to) (x:=at_) (by omega))).pred at_ h
  have hi:i < f.links.length:=(List.getElem?_eq_some_iff.1 hl).1
  have hb:stepB f (dist f to) at_ i≠none:=by
    unfold stepB
    rw [hl]
    dsimp only
    have ho:(otherF l at_).2=true∧gI (dist f to) (otherF l at_).1=gI (dist f to) at_ - 1:=by
      unfold otherF
      rcases h3 with ⟨h3,h4⟩|⟨h3,h4⟩
      · rw [if_pos h3.symm];exact ⟨rfl,by rw [h4];exact h1⟩
      · by_cases e:at_=l.a
        · rw [if_pos e]
          have:l.b=l.a:=by rw [h3,e]
          refine ⟨rfl,?_⟩
          rw [show l.b=y from by rw [this,h4]];exact h1
        · rw [if_neg e,if_pos h3.symm];exact ⟨rfl,by rw [h4];exact h1⟩
    rw [if_pos ⟨ho.1,hW,by omega,ho.2⟩]
    exact fun h=>by cases h
  intro he
  cases hs:stepB f (dist f to) at_ i with
  | none=>exact hb hs
  | some p =>
    have:p∈stepsK f (dist f to) at_ f.links.length:=by
      unfold stepsK
      exact List.mem_filterMap.2 ⟨i,by simpa using hi,hs⟩
    rw [he] at this;cases this
theorem other_any (l:Lnk) (at_:Int):AFn Tryz.prog 87 0 [.agg (lnkC l),.base (.int .i64 at_)] mt (.tup [.base (.int .i64 (otherF l at_).1),.base (.bool (otherF l at_).2)]) mt:=by
  refine AFn.eq Tryz.func87 rfl rfl (Nat.le_of_ble_eq_true rfl) ?_
  unfold lnkC
  refine Wq (qW 0 3 rfl (qC rfl (qA rfl (qA rfl (Nl (Wq (Wq (qW 7 8 rfl (qM rfl (Nl (Wb ?_)))))))))))
  by_cases e1:at_=l.a
  · have g1:(at_ == l.a)=true:=by simpa using e1
    refine Wq (qW 12 16 rfl (qF rfl ty99 rfl (qL rfl ty3 rfl (qE rfl (qA rfl (Nl (Wt rfl ‹_› (Wq (qW 20 24 rfl (qF rfl ty99 rfl (qL rfl ty3 rfl (qA rfl (qA rfl (Nl (Wz ⟨.inl rfl,_,mt,Rc (Rt rfl) (Rc (Rt rfl) (Rv)),aM,?_⟩)))))))))))))))
    exact ⟨by unfold otherF;rw [if_pos e1];rfl,rfl⟩
  · have g1:(at_ == l.a)=false:=by simpa using e1
    by_cases e2:at_=l.b
    · have g2:(at_ == l.b)=true:=by simpa using e2
      refine Wq (qW 12 16 rfl (qF rfl ty99 rfl (qL rfl ty3 rfl (qE rfl (qA rfl (Nl (Wo rfl ‹_› (Wq (qW 28 32 rfl (qF rfl ty99 rfl (qL rfl ty3 rfl (qE rfl (qA rfl (Nl (Wt rfl ‹_› (Wq (qW 36 40 rfl (qF rfl ty99 rfl (qL rfl ty3 rfl (qA rfl (qA rfl (Nl (Wz ⟨.inl rfl,_,mt,Rc (Rt rfl) (Rc (Rt rfl) (Rv)),aM,?_⟩)))))))))))))))))))))))
      exact ⟨by unfold otherF;rw [if_neg e1,if_pos e2];rfl,rfl⟩
    · have g2:(at_ == l.b)=false:=by simpa using e2
      refine Wq (qW 12 16 rfl (qF rfl ty99 rfl (qL rfl ty3 rfl (qE rfl (qA rfl (Nl (Wo rfl ‹_› (Wq (qW 28 32 rfl (qF rfl ty99 rfl (qL rfl ty3 rfl (qE rfl (qA rfl (Nl (Wo rfl ‹_› (Wu (Wq (qW 44 46 rfl (qA rfl (qA rfl (Nl (Wz ⟨.inl rfl,_,mt,Rc (Rt rfl) (Rc (Rt rfl) (Rv)),aM,?_⟩))))))))))))))))))))))
      exact ⟨by unfold otherF;rw [if_neg e1,if_neg e2];rfl,rfl⟩
/-- the ends of all links are switches -/
def EndsIn (f:Fab):Prop:=∀ (i:Nat) (l:Lnk),f.links[i]?=some l→0≤l.a∧l.a < f.dead.length∧0≤l.b∧l.b < f.dead.length
theorem EndsIn.other {f:Fab} (h:EndsIn f) {i:Nat} {l:Lnk} (hl:f.links[i]?=some l) {at_:Int} (ho:(otherF l at_).2=true):0≤(otherF l at_).1∧(otherF l at_).1 < f.dead.length:=by
  obtain ⟨h1,h2,h3,h4⟩:=h i l hl
  unfold otherF at ho ⊢
  split
  · exact ⟨h3,h4⟩
  · split
    · exact ⟨h1,h2⟩
    · rw [if_neg (by assumption),if_neg (by assumption)] at ho;cases ho
theorem way_next {f:Fab} {to at_ h:Int} (hp:0 < gI (dist f to) at_) {L:List (Int × Int)} (hL:stepsK f (dist f to) at_ f.links.length=L):0 < L.length∧pickN h L.length < L.length∧gI (dist f to) (gI (sndL L) (pickN h L.length))=gI (dist f to) at_ - 1 ∧
    wayL f (dist f to) h (gI (dist f to) at_).toNat at_=gI (fstL L) (pickN h L.length)::wayL f (dist f to) h (gI (dist f to) (gI (sndL L) (pickN h L.length))).toNat (gI (sndL L) (pickN h L.length)):=by
  have hne:=steps_ne hp
  rw [hL] at hne
  have h0:0 < L.length:=List.length_pos_iff.2 hne
  have hk:=pickN_lt h h0
  obtain ⟨i,l,_,_,he,_,_,_,h5⟩:=stepsK_mem (f:=f) (d:=dist f to) (at_:=at_) (k:=f.links.length) (p:=L[pickN h L.length]) (by rw [hL];exact List.getElem_mem hk)
  have hs:gI (sndL L) (pickN h L.length)=(otherF l at_).1:=by
    rw [gI_at (by simpa [sndL] using hk)]
    simp [sndL,he]
  rw [hs,h5]
  refine ⟨h0,hk,rfl,?_⟩
  obtain ⟨m,hm⟩:∃ m:Nat,gI (dist f to) at_=(m:Int) + 1:=⟨(gI (dist f to) at_ - 1).toNat,by omega⟩
  rw [hm,show ((m:Int) + 1).toNat=m + 1 from by omega,show ((m:Int) + 1 - 1).toNat=m from by omega]
  show (_::_)=_
  rw [hL,hs]
set_option maxHeartbeats 1000000 in
theorem way_any (f:Fab) (hf:FabS f) (he:EndsIn f) (frm to h:Int):AFn Tryz.prog 44 0 [.agg (fabC f),.base (.int .i64 frm),.base (.int .i64 to),.base (.int .i64 h)] mt (wayV (wayF f frm to h)) mt:=by
  refine AFn.eq Tryz.func44 rfl rfl (Nat.le_of_ble_eq_true rfl) ?_
  have hds:=distances_isl f hf
  have hwk:=works_any f
  have hot:=other_any
  obtain ⟨hsw,h8,h24⟩:=hf
  have hdl:=dist_len f to
  have hlt:=fun x=>dist_lt f to x
  have hge:=fun x=>dist_ge f to x
  refine Wq (qW 0 3 rfl (qC rfl (qA rfl (qA rfl (Nl (Wq (qW 7 11 rfl (qG rfl ty35 rfl (Tl rfl) (qM rfl (qY rfl (hds _) fok86 rfl (qA rfl (Nl ?_))))))))))))
  obtain ⟨d,hd⟩:∃ d,dist f to=d:=⟨_,rfl⟩
  by_cases hfr:0≤gI (dist f to) frm
  · obtain ⟨r0,r1⟩:=gI_range hfr
    rw [hdl] at r1
    have k1:decide (frm < 0)=false:=decide_eq_false (by omega)
    have k2:decide (frm ≥ (f.dead.length:Int))=false:=decide_eq_false (by omega)
    have k3:decide (gI (dist f to) frm < 0)=false:=decide_eq_false (by omega)
    have hv:wayF f frm to h=some (wayL f (dist f to) h (gI (dist f to) frm).toNat frm):=if_pos hfr
    have hal:=dist_alive hfr
    refine Wq (Wq (qW 15 30 rfl (qM rfl (qK rfl (qM rfl (qU rfl ‹_› rfl (Mv rfl rfl) (qU rfl ‹_› rfl (Mv rfl rfl) (qU rfl ‹_› rfl (Ln rfl rfl rfl ty27) (qU rfl ‹_› rfl (Ge0 rfl rfl rfl) (qP rfl ‹_› rfl (qM rfl (qU rfl ‹_› rfl (Mv rfl rfl) (qU rfl ‹_› rfl (Mv rfl rfl) (qU rfl ‹_› rfl (Ii rfl rfl rfl rfl (Int.toNat_of_nonneg r0).symm ty27 ty3 (by omega)) (qU rfl ‹_› rfl (Li rfl rfl (gi_at1 r0 (by omega)) ty3 rfl) (qU rfl ‹_› rfl (Ls rfl rfl rfl) (qP rfl ‹_› rfl (Nl (Wo rfl ‹_› (Wu (Wq (qW 40 41 rfl (qA rfl (Nl (W.name 41 (41 + 1) (t:=11) (sz:=1) rfl (by decide) (by decide) (Wq (Wq (qW 45 47 rfl (qM rfl (qA rfl (Nl (Wb (W.rename [(0,0),(1,41)] 2 (T':=up (up (up (up (up (up mt 2 (some (.base (.int .i64 to)))) 3 (some (.base (.int .i64 h)))) 4 (some (.own 0 0))) 10 (some (.isl (intsC (dist f to)) f.dead.length))) 11 (some (.osl 1 0 (([]:List Int)).length 1))) 12 (some (.base (.int .i64 frm)))) (H':=up (up mt 0 (some (fabC f))) 1 (some (intsC (([]:List Int))))) (by decide) ?_ ?_ ?_)))))))))))))))))))))))))))))))))
    · exact aU (lR rfl) (aU (lI rfl) (aU (lR rfl) (aU (lI rfl) (aU (lR rfl) (aU (lR rfl) aM)))))
    · exact aU (kR rfl) (aU (kR rfl) aM)
    refine W.loop_ind (α:=Int × List Int) (fun x=>(gI (dist f to) x.1).toNat) 2 (fun x=>up (up (up (up (up (up mt 2 (some (.base (.int .i64 to)))) 3 (some (.base (.int .i64 h)))) 4 (some (.own 0 0))) 10 (some (.isl (intsC (dist f to)) f.dead.length))) 11 (some (.osl 1 0 x.2.length 1))) 12 (some (.base (.int .i64 x.1)))) (fun x=>up (up mt 0 (some (fabC f))) 1 (some (intsC x.2))) (fun x=>(0≤gI (dist f to) x.1∧x.2.length + (gI (dist f to) x.1).toNat≤8)∧wayF f frm to h=some (x.2++wayL f (dist f to) h (gI (dist f to) x.1).toNat x.1)) (frm,(([]:List Int))) (show (0≤gI (dist f to) frm∧(([]:List Int)).length + (gI (dist f to) frm).toNat≤8)∧wayF f frm to h=some ((([]:List Int))++wayL f (dist f to) h (gI (dist f to) frm).toNat frm) from ⟨⟨hfr,by have:=hlt frm (by omega);simp only [List.length_nil];omega⟩,hv⟩) ?_
    rintro ⟨at_,out⟩ hIA ihA
    try (dsimp only at hIA)
    try dsimp only
    obtain ⟨⟨hat,hol⟩,hw⟩:=hIA
    obtain ⟨q0,q1⟩:=gI_range hat
    rw [hdl] at q1
    by_cases eat:at_=to
    · have g1:(at_ != to)=false:=by simpa using eat
      have hz:gI (dist f to) at_=0:=by rw [eat,dist_self hal]
      refine Wq (Wq (qW 51 54 rfl (qM rfl (qM rfl (qN rfl (Nl (Wo rfl ‹_› (Wx (Wq (qW 187 190 rfl (qM rfl (qA rfl (qA rfl (Nl (Wy (t:=8) rfl rfl (ints_tk rfl) (intsC_pure _) (Wz ⟨.inl rfl,_,mt,Rc (Rt rfl) (Rc (Rt rfl) (Rv)),aM,?_⟩))))))))))))))))
      refine ⟨?_,rfl⟩
      rw [hw,hz]
      show AV.tup [.isl (intsC out) out.length,.base (.bool true)]=wayV (some (out++[]))
      rw [List.append_nil];rfl
    · have g1:(at_ != to)=true:=by simpa using eat
      have hpos:0 < gI (dist f to) at_:=by
        have:gI (dist f to) at_≠0:=fun h0=>eat ((dist_ok hal).zero _ h0)
        omega
      refine Wq (Wq (qW 51 54 rfl (qM rfl (qM rfl (qN rfl (Nl (Wt rfl ‹_› (Wu (Wb (Wq (qW 58 60 rfl (qA rfl (qA rfl (Nl (W.name 60 (60 + 1) (t:=13) (sz:=1) rfl (by decide) (by decide) (W.name (60 + 1) (60 + 2) (t:=14) (sz:=1) rfl (by decide) (by decide) (Wq (Wq (qW 64 68 rfl (qF rfl ty35 rfl (qL rfl ty32 rfl (qH rfl ty32 (qM rfl (Nl (Wb (W.rename [(0,0),(1,1),(2,60),(3,(60 + 1))] 4 (T':=up (up (up (up (up (up (up (up (up (up (up mt 2 (some (.base (.int .i64 to)))) 3 (some (.base (.int .i64 h)))) 4 (some (.own 0 0))) 10 (some (.isl (intsC (dist f to)) f.dead.length))) 11 (some (.osl 1 0 out.length 1))) 12 (some (.base (.int .i64 at_)))) 13 (some (.osl 2 0 (([]:List (Int × Int))).length 1))) 14 (some (.osl 3 0 (([]:List (Int × Int))).length 1))) 43 (some (.isl (lnksC f.links) f.links.length))) 44 (some (.base (.int .i64 (f.links.length:Int))))) 45 (some (.base (.int .i64 (0:Int))))) (H':=up (up (up (up mt 0 (some (fabC f))) 1 (some (intsC out))) 2 (some (intsC (fstL (([]:List (Int × Int))))))) 3 (some (intsC (sndL (([]:List (Int × Int))))))) (by decide) ?_ ?_ ?_))))))))))))))))))))))))))
      · exact aU (lR rfl) (aU (lR rfl) (aU (lR rfl) (aU (lI rfl) (aU (lI rfl) (aU (lR rfl) (aU (lI rfl) (aU (lR rfl) (aU (lI rfl) (aU (lR rfl) (aU (lR rfl) aM))))))))))
      · exact aU (kR rfl) (aU (kR rfl) (aU (⟨rfl,_,rfl,.inr ⟨rfl,by first|rfl|assumption|exact (intsC_pure _)⟩⟩) (aU (kR rfl) aM)))
      refine W.loop_ind (α:=Nat × List (Int × Int)) (fun x=>f.links.length - x.1) 4 (fun x=>up (up (up (up (up (up (up (up (up (up (up mt 2 (some (.base (.int .i64 to)))) 3 (some (.base (.int .i64 h)))) 4 (some (.own 0 0))) 10 (some (.isl (intsC (dist f to)) f.dead.length))) 11 (some (.osl 1 0 out.length 1))) 12 (some (.base (.int .i64 at_)))) 13 (some (.osl 2 0 x.2.length 1))) 14 (some (.osl 3 0 x.2.length 1))) 43 (some (.isl (lnksC f.links) f.links.length))) 44 (some (.base (.int .i64 (f.links.length:Int))))) 45 (some (.base (.int .i64 (x.1:Int))))) (fun x=>up (up (up (up mt 0 (some (fabC f))) 1 (some (intsC out))) 2 (some (intsC (fstL x.2)))) 3 (some (intsC (sndL x.2)))) (fun x=>x.1≤f.links.length∧stepsK f (dist f to) at_ x.1=x.2) (0,(([]:List (Int × Int)))) (show 0≤f.links.length∧stepsK f (dist f to) at_ 0=(([]:List (Int × Int))) from ⟨Nat.zero_le _,rfl⟩) ?_
      rintro ⟨i,L⟩ hIB ihB
      try (dsimp only at hIB)
      try dsimp only
      obtain ⟨hi,hL⟩:=hIB
      have hLl:L.length≤i:=by rw [← hL];exact stepsK_len _ _ _ _
      have hf1:(fstL L).length=L.length:=by simp [fstL]
      have hf2:(sndL L).length=L.length:=by simp [sndL]
      by_cases hc:i < f.links.length
      · have g2:decide ((i:Int) < (f.links.length:Int))=true:=decide_eq_true (by omega)
        have hl2:f.links[i]?=some f.links[i]:=by simp [hc]
        have hnx:=stepsK_succ f (dist f to) at_ i
        rw [hL] at hnx
        have hEo:=fun ho=>he.other hl2 (at_:=at_) ho
        refine Wq (qW 72 73 rfl (qK rfl (Nl (Wq (Wt rfl ‹_› (Wu (Wq (Wb (Wq (qW 77 83 rfl (qM rfl (qJ rfl rfl ty32 ty99 (by omega) (Od rfl rfl (Lg rfl rfl ty99 rfl (lnksC_tk hc)) (qB rfl ty99 (qA rfl (qS rfl ty99 (Sl rfl) rfl (Nl ?_)))))))))))))))))
        obtain ⟨lk,hlk⟩:∃ lk,f.links[i]=lk:=⟨_,rfl⟩
        rw [hlk] at hl2 hEo ⊢
        have hsb:stepB f (dist f to) at_ i=if (otherF lk at_).2=true∧wkF f i=true∧0≤gI (dist f to) at_∧gI (dist f to) (otherF lk at_).1=gI (dist f to) at_ - 1 then some ((i:Int),(otherF lk at_).1) else none:=by
          unfold stepB;rw [hl2]
        have hotl:=hot lk at_
        obtain ⟨eo,heo⟩:∃ eo,otherF lk at_=eo:=⟨_,rfl⟩
        rw [heo] at hsb hEo hotl
        obtain ⟨e,ok⟩:=eo
        dsimp only at hsb hEo hotl
        refine Wq (qW 87 95 rfl (qG rfl ty99 rfl (Tl rfl) (qM rfl (qY rfl (hotl) fok87 rfl (qM rfl (qX rfl (qX rfl (qA rfl (qA rfl (Nl ?_))))))))))
        cases ok with
        | false =>
          rw [if_neg (by simp)] at hsb
          rw [hsb] at hnx
          refine Wq (Wd 99 123 (by decide) rfl mixed rfl (qM rfl (qM rfl (qD rfl rfl rfl (qD rfl rfl rfl (qD rfl rfl rfl (qD rfl rfl rfl (qP rfl rfl rfl (qM rfl (qD rfl rfl rfl (qD rfl rfl rfl (qD rfl rfl rfl (qP rfl rfl rfl (qM rfl (qD rfl rfl rfl (qD rfl rfl rfl (qD rfl rfl rfl (qD rfl rfl rfl (qD rfl rfl rfl (qD rfl rfl rfl (qD rfl rfl rfl (qD rfl rfl rfl (qD rfl rfl rfl (qD rfl rfl rfl (qP rfl rfl rfl (Nl ⟨by kernel_rfl,(Wo rfl rfl (Wu (qW 141 143 rfl (qZ rfl (iW _ (by omega)) (qM rfl (Nl (WL.rename [(0,0),(1,1),(2,2),(3,3)] 4 (by decide) ?_ ?_ (ihB ((i + 1),L) (show f.links.length - (i + 1) < f.links.length - i from by omega) (show (i + 1)≤f.links.length∧stepsK f (dist f to) at_ (i + 1)=L from ⟨by omega,by rw [hnx];exact List.append_nil _⟩)))))))))⟩))))))))))))))))))))))))))
          · exact aU (lR rfl) (aU (lR rfl) (aU (lR rfl) (aU (lI rfl) (aU (lI rfl) (aU (lR rfl) (aU (lI rfl) (aU (lR rfl) (aU (lI rfl) (aU (lR rfl) (aU (lR rfl) aM))))))))))
          · exact aU (⟨rfl,_,rfl,.inr ⟨rfl,by first|rfl|assumption|exact (intsC_pure _)⟩⟩) (aU (⟨rfl,_,rfl,.inr ⟨rfl,by first|rfl|assumption|exact (intsC_pure _)⟩⟩) (aU (⟨rfl,_,rfl,.inr ⟨rfl,by first|rfl|assumption|exact (intsC_pure _)⟩⟩) (aU (kR rfl) aM)))
        | true =>
          obtain ⟨x0,x1⟩:=hEo rfl
          have k1:decide (e < (f.dead.length:Int))=true:=decide_eq_true (by omega)
          cases hwi:worksB f i with
          | false =>
            rw [if_neg (by rw [show wkF f i=false from hwi];simp)] at hsb
            rw [hsb] at hnx
            refine Wq (Wd 99 123 (by decide) rfl mixed rfl (qM rfl (qM rfl (qU rfl rfl rfl (Mv rfl rfl) (qU rfl rfl rfl (Mv rfl rfl) (qU rfl rfl rfl (Ln rfl rfl rfl ty27) (qU rfl rfl rfl (Ls rfl rfl rfl) (qT rfl rfl rfl (qM rfl (qU rfl ‹_› rfl (La rfl rfl rfl ty35 rfl (Tl rfl)) (qU rfl ‹_› rfl (Mv rfl rfl) (qU rfl ‹_› rfl (C0 (fr:=[]) rfl rfl (hwk _) fok88 (.cons rfl (.pure rfl) (.cons rfl (.pure rfl) .nil)) rfl) (qT rfl ‹_› rfl (qM rfl (qD rfl ‹_› rfl (qD rfl ‹_› rfl (qD rfl ‹_› rfl (qD rfl ‹_› rfl (qD rfl ‹_› rfl (qD rfl ‹_› rfl (qD rfl ‹_› rfl (qD rfl ‹_› rfl (qD rfl ‹_› rfl (qD rfl ‹_› rfl (qP rfl ‹_› rfl (Nl ⟨by kernel_rfl,(Wo rfl rfl (Wu (qW 141 143 rfl (qZ rfl (iW _ (by omega)) (qM rfl (Nl (WL.rename [(0,0),(1,1),(2,2),(3,3)] 4 (by decide) ?_ ?_ (ihB ((i + 1),L) (show f.links.length - (i + 1) < f.links.length - i from by omega) (show (i + 1)≤f.links.length∧stepsK f (dist f to) at_ (i + 1)=L from ⟨by omega,by rw [hnx];exact List.append_nil _⟩)))))))))⟩))))))))))))))))))))))))))
            · exact aU (lR rfl) (aU (lR rfl) (aU (lR rfl) (aU (lI rfl) (aU (lI rfl) (aU (lR rfl) (aU (lI rfl) (aU (lR rfl) (aU (lI rfl) (aU (lR rfl) (aU (lR rfl) aM))))))))))
            · exact aU (⟨rfl,_,rfl,.inr ⟨rfl,by first|rfl|assumption|exact (intsC_pure _)⟩⟩) (aU (⟨rfl,_,rfl,.inr ⟨rfl,by first|rfl|assumption|exact (intsC_pure _)⟩⟩) (aU (⟨rfl,_,rfl,.inr ⟨rfl,by first|rfl|assumption|exact (intsC_pure _)⟩⟩) (aU (kR rfl) aM)))
          | true =>
            have hla:=hlt at_ (by omega)
            by_cases ee:gI (dist f to) e=gI (dist f to) at_ - 1
            · have k2:(gI (dist f to) e == gI (dist f to) at_ - 1)=true:=by simpa using ee
              rw [if_pos ⟨rfl,hwi,by omega,ee⟩] at hsb
              rw [hsb] at hnx
              refine Wq (Wd 99 123 (by decide) rfl mixed rfl (qM rfl (qM rfl (qU rfl rfl rfl (Mv rfl rfl) (qU rfl rfl rfl (Mv rfl rfl) (qU rfl rfl rfl (Ln rfl rfl rfl ty27) (qU rfl rfl rfl (Ls rfl rfl rfl) (qT rfl rfl rfl (qM rfl (qU rfl ‹_› rfl (La rfl rfl rfl ty35 rfl (Tl rfl)) (qU rfl ‹_› rfl (Mv rfl rfl) (qU rfl ‹_› rfl (C0 (fr:=[]) rfl rfl (hwk _) fok88 (.cons rfl (.pure rfl) (.cons rfl (.pure rfl) .nil)) rfl) (qT rfl ‹_› rfl (qM rfl (qU rfl ‹_› rfl (Mv rfl rfl) (qU rfl ‹_› rfl (Mv rfl rfl) (qU rfl ‹_› rfl (Ii rfl rfl rfl rfl (Int.toNat_of_nonneg x0).symm ty27 ty3 (by omega)) (qU rfl ‹_› rfl (Li rfl rfl (gi_at1 x0 (by omega)) ty3 rfl) (qU rfl ‹_› rfl (Mv rfl rfl) (qU rfl ‹_› rfl (Mv rfl rfl) (qU rfl ‹_› rfl (Ii rfl rfl rfl rfl (Int.toNat_of_nonneg q0).symm ty27 ty3 (by omega)) (qU rfl ‹_› rfl (Li rfl rfl (gi_at1 q0 (by omega)) ty3 rfl) (qU rfl ‹_› rfl (LO.sub_in rfl rfl rfl (iW _ (by omega))) (qU rfl ‹_› rfl (Eq0 rfl rfl rfl) (qT rfl ‹_› rfl (Nl ⟨by kernel_rfl,(Wt rfl ‹_› (qW 127 137 rfl (qM rfl (qM rfl (Od rfl rfl (LO.buildSlice rfl ty27 ty3 (by decide) (by decide) (.cons rfl rfl rfl rfl (Sl rfl) .nil)) (Od rfl rfl (Lap rfl rfl (Sso rfl rfl (Tl rfl)) rfl (ints_tk hf1) ty27 ty27 ty3 (by decide) (by omega) (by omega) (by decide)) (qM rfl (qM rfl (Od rfl rfl (LO.buildSlice rfl ty27 ty3 (by decide) (by decide) (.cons rfl rfl rfl rfl (Sl rfl) .nil)) (Od rfl rfl (Lap rfl rfl (Sso rfl rfl (Tl rfl)) rfl (ints_tk hf2) ty27 ty27 ty3 (by decide) (by omega) (by omega) (by decide)) (qA rfl (qA rfl (Nl (qW 141 143 rfl (qZ rfl (iW _ (by omega)) (qM rfl (Nl ?_)))))))))))))))))⟩))))))))))))))))))))))))))
              rw [show intsC (fstL L)++[AV.base (.int .i64 (i:Int))]=intsC (fstL (L++[((i:Int),e)])) from by simp [intsC,fstL],show intsC (sndL L)++[AV.base (.int .i64 e)]=intsC (sndL (L++[((i:Int),e)])) from by simp [intsC,sndL],show L.length + 1=(L++[((i:Int),e)]).length from by simp]
              refine WL.rename [(0,0),(1,1),(2,130),(3,134)] 4 (by decide) ?_ ?_ (ihB ((i + 1),(L++[((i:Int),e)])) (show f.links.length - (i + 1) < f.links.length - i from by omega) (show (i + 1)≤f.links.length∧stepsK f (dist f to) at_ (i + 1)=(L++[((i:Int),e)]) from ⟨by omega,hnx⟩))
              · exact aU (lR rfl) (aU (lR rfl) (aU (lR rfl) (aU (lI rfl) (aU (lI rfl) (aU (lR rfl) (aU (lI rfl) (aU (lR rfl) (aU (lI rfl) (aU (lR rfl) (aU (lR rfl) aM))))))))))
              · exact aU (⟨rfl,_,rfl,.inr ⟨rfl,by first|rfl|assumption|exact (intsC_pure _)⟩⟩) (aU (⟨rfl,_,rfl,.inr ⟨rfl,by first|rfl|assumption|exact (intsC_pure _)⟩⟩) (aU (⟨rfl,_,rfl,.inr ⟨rfl,by first|rfl|assumption|exact (intsC_pure _)⟩⟩) (aU (kR rfl) aM)))
            · have k2:(gI (dist f to) e == gI (dist f to) at_ - 1)=false:=by simpa using ee
              rw [if_neg (fun h=>ee h.2.2.2)] at hsb
              rw [hsb] at hnx
              refine Wq (Wd 99 123 (by decide) rfl mixed rfl (qM rfl (qM rfl (qU rfl rfl rfl (Mv rfl rfl) (qU rfl rfl rfl (Mv rfl rfl) (qU rfl rfl rfl (Ln rfl rfl rfl ty27) (qU rfl rfl rfl (Ls rfl rfl rfl) (qT rfl rfl rfl (qM rfl (qU rfl ‹_› rfl (La rfl rfl rfl ty35 rfl (Tl rfl)) (qU rfl ‹_› rfl (Mv rfl rfl) (qU rfl ‹_› rfl (C0 (fr:=[]) rfl rfl (hwk _) fok88 (.cons rfl (.pure rfl) (.cons rfl (.pure rfl) .nil)) rfl) (qT rfl ‹_› rfl (qM rfl (qU rfl ‹_› rfl (Mv rfl rfl) (qU rfl ‹_› rfl (Mv rfl rfl) (qU rfl ‹_› rfl (Ii rfl rfl rfl rfl (Int.toNat_of_nonneg x0).symm ty27 ty3 (by omega)) (qU rfl ‹_› rfl (Li rfl rfl (gi_at1 x0 (by omega)) ty3 rfl) (qU rfl ‹_› rfl (Mv rfl rfl) (qU rfl ‹_› rfl (Mv rfl rfl) (qU rfl ‹_› rfl (Ii rfl rfl rfl rfl (Int.toNat_of_nonneg q0).symm ty27 ty3 (by omega)) (qU rfl ‹_› rfl (Li rfl rfl (gi_at1 q0 (by omega)) ty3 rfl) (qU rfl ‹_› rfl (LO.sub_in rfl rfl rfl (iW _ (by omega))) (qU rfl ‹_› rfl (Eq0 rfl rfl rfl) (qT rfl ‹_› rfl (Nl ⟨by kernel_rfl,(Wo rfl ‹_› (Wu (qW 141 143 rfl (qZ rfl (iW _ (by omega)) (qM rfl (Nl (WL.rename [(0,0),(1,1),(2,2),(3,3)] 4 (by decide) ?_ ?_ (ihB ((i + 1),L) (show f.links.length - (i + 1) < f.links.length - i from by omega) (show (i + 1)≤f.links.length∧stepsK f (dist f to) at_ (i + 1)=L from ⟨by omega,by rw [hnx];exact List.append_nil _⟩)))))))))⟩))))))))))))))))))))))))))
              · exact aU (lR rfl) (aU (lR rfl) (aU (lR rfl) (aU (lI rfl) (aU (lI rfl) (aU (lR rfl) (aU (lI rfl) (aU (lR rfl) (aU (lI rfl) (aU (lR rfl) (aU (lR rfl) aM))))))))))
              · exact aU (⟨rfl,_,rfl,.inr ⟨rfl,by first|rfl|assumption|exact (intsC_pure _)⟩⟩) (aU (⟨rfl,_,rfl,.inr ⟨rfl,by first|rfl|assumption|exact (intsC_pure _)⟩⟩) (aU (⟨rfl,_,rfl,.inr ⟨rfl,by first|rfl|assumption|exact (intsC_pure _)⟩⟩) (aU (kR rfl) aM)))
      · have g2:decide ((i:Int) < (f.links.length:Int))=false:=decide_eq_false (by omega)
        refine Wq (qW 72 73 rfl (qK rfl (Nl (Wq (Wo rfl ‹_› (Wx ?_))))))
        obtain rfl:i=f.links.length:=by omega
        obtain ⟨h0,hk,hdn,hwn⟩:=way_next (h:=h) hpos hL
        have k1:((L.length:Int) == 0)=false:=by simp;exact fun h=>by rw [h] at h0;exact absurd h0 (by decide)
        obtain ⟨hn,hhn,hn0⟩:∃ hn:Int,(if 0 < h then h else 0)=hn∧0≤hn:=⟨_,rfl,by split<;>omega⟩
        have hpk:=pickN_eq h h0
        rw [hhn] at hpk
        obtain ⟨pk,hpke⟩:∃ pk,pickN h L.length=pk:=⟨_,rfl⟩
        rw [hpke] at hpk hk hdn hwn
        clear ihB
        refine Wq (Wq (qW 147 150 rfl (qM rfl (Od rfl rfl (LO.len rfl rfl ty27) (qE rfl (Nl (Wo rfl ‹_› (Wu (Wq (qW 160 166 rfl (qM rfl (Od rfl rfl (LO.max rfl rfl rfl) ?_))))))))))))
        rw [hhn]
        refine qM rfl (Od rfl rfl (LO.len rfl rfl ty27) (Od rfl rfl (LO.rem_in rfl rfl rfl (by omega) (by omega)) (qA rfl (Nl ?_))))
        rw [hpk]
        refine Wd 170 183 (by decide) rfl mixed rfl (qM rfl (qM rfl (qM rfl (Od rfl rfl (Ia rfl rfl rfl rfl ty27 ty3 (by omega)) (Od rfl rfl (Ld rfl rfl rfl (ni_at (k:=pk) (by omega)) ty3 rfl) (Od rfl rfl (LO.buildSlice rfl ty27 ty3 (by decide) (by decide) (.cons rfl rfl rfl rfl (Sl rfl) .nil)) (Od rfl rfl (Lap rfl rfl (Sso rfl rfl (Tl rfl)) rfl (ints_tk rfl) ty27 ty27 ty3 (by decide) (by omega) (by omega) (by decide)) (qM rfl (qM rfl (Od rfl rfl (Ia rfl rfl rfl rfl ty27 ty3 (by omega)) (Od rfl rfl (Ld rfl rfl rfl (ni_at (k:=pk) (by omega)) ty3 rfl) (qA rfl (qA rfl (Nl ⟨by kernel_rfl,?_⟩))))))))))))))
        rw [ints_snoc,show out.length + 1=(out++[gI (fstL L) pk]).length from by simp]
        refine WL.rename [(0,0),(1,176)] 2 (by decide) ?_ ?_ (ihA ((gI (sndL L) pk),(out++[gI (fstL L) pk])) (show (gI (dist f to) (gI (sndL L) pk)).toNat < (gI (dist f to) at_).toNat from by omega) (show (0≤gI (dist f to) (gI (sndL L) pk)∧(out++[gI (fstL L) pk]).length + (gI (dist f to) (gI (sndL L) pk)).toNat≤8)∧wayF f frm to h=some ((out++[gI (fstL L) pk])++wayL f (dist f to) h (gI (dist f to) (gI (sndL L) pk)).toNat (gI (sndL L) pk)) from ⟨⟨by omega,by simp only [List.length_append,List.length_singleton];omega⟩,by rw [hw,hwn,List.append_assoc];rfl⟩))
        · exact aU (lR rfl) (aU (lI rfl) (aU (lR rfl) (aU (lI rfl) (aU (lR rfl) (aU (lR rfl) aM)))))
        · exact aU (⟨rfl,_,rfl,.inr ⟨rfl,by first|rfl|assumption|exact (intsC_pure _)⟩⟩) (aU (kR rfl) aM)
  · have hv:wayF f frm to h=none:=if_neg hfr
    have hcase:frm < 0∨(¬ frm < 0∧frm ≥ f.dead.length)∨(¬ frm < 0∧¬ frm ≥ f.dead.length):=by omega
    rcases hcase with c1|⟨c1,c2⟩|⟨c1,c2⟩
    case' inl =>
      have k1:decide (frm < 0)=true:=decide_eq_true c1
      refine Wq (Wq (qW 15 30 rfl (qM rfl (qK rfl (qM rfl (qD rfl ‹_› rfl (qD rfl ‹_› rfl (qD rfl ‹_› rfl (qD rfl ‹_› rfl (qT rfl ‹_› rfl (qM rfl (qD rfl rfl rfl (qD rfl rfl rfl (qD rfl rfl rfl (qD rfl rfl rfl (qD rfl rfl rfl (qT rfl rfl rfl (Nl ?_))))))))))))))))))
    case' inr.inl =>
      have k1:decide (frm < 0)=false:=decide_eq_false c1
      have k2:decide (frm ≥ (f.dead.length:Int))=true:=decide_eq_true c2
      refine Wq (Wq (qW 15 30 rfl (qM rfl (qK rfl (qM rfl (qU rfl ‹_› rfl (Mv rfl rfl) (qU rfl ‹_› rfl (Mv rfl rfl) (qU rfl ‹_› rfl (Ln rfl rfl rfl ty27) (qU rfl ‹_› rfl (Ge0 rfl rfl rfl) (qP rfl ‹_› rfl (qM rfl (qD rfl ‹_› rfl (qD rfl ‹_› rfl (qD rfl ‹_› rfl (qD rfl ‹_› rfl (qD rfl ‹_› rfl (qT rfl ‹_› rfl (Nl ?_))))))))))))))))))
    case' inr.inr =>
      have k1:decide (frm < 0)=false:=decide_eq_false c1
      have k2:decide (frm ≥ (f.dead.length:Int))=false:=decide_eq_false c2
      have k3:decide (gI (dist f to) frm < 0)=true:=decide_eq_true (by omega)
      have r0:0≤frm:=by omega
      refine Wq (Wq (qW 15 30 rfl (qM rfl (qK rfl (qM rfl (qU rfl ‹_› rfl (Mv rfl rfl) (qU rfl ‹_› rfl (Mv rfl rfl) (qU rfl ‹_› rfl (Ln rfl rfl rfl ty27) (qU rfl ‹_› rfl (Ge0 rfl rfl rfl) (qP rfl ‹_› rfl (qM rfl (qU rfl ‹_› rfl (Mv rfl rfl) (qU rfl ‹_› rfl (Mv rfl rfl) (qU rfl ‹_› rfl (Ii rfl rfl rfl rfl (Int.toNat_of_nonneg r0).symm ty27 ty3 (by omega)) (qU rfl ‹_› rfl (Li rfl rfl (gi_at1 r0 (by omega)) ty3 rfl) (qU rfl ‹_› rfl (Ls rfl rfl rfl) (qP rfl ‹_› rfl (Nl ?_))))))))))))))))))
    all_goals
      refine Wt rfl (by first|rfl|assumption) ?_
      repeat (refine W.seq ?_)
      refine qW 34 36 rfl (qA rfl (qA rfl (Nl (W.name 36 (36 + 1) (t:=8) (sz:=1) rfl (by decide) (by decide) (Wy (t:=8) rfl rfl (Tl rfl) rfl (Wz ⟨.inl rfl,_,mt,Rc (Rt rfl) (Rc (Rt rfl) (Rv)),aM,?_⟩))))))
      exact ⟨by rw [hv];rfl,rfl⟩
end Go.Proofs.YtlcndmciognneaaGreatDoor
namespace Go.Proofs.YtlcndmciognneaaGreatDoor
open Go.RowKit
end Go.Proofs.YtlcndmciognneaaGreatDoor
namespace Go.Proofs.YtlcndmciognneaaGreatDoor
open Go.RowKit
theorem by_atI {l:List Int} {k:Nat} (h:k < l.length):(bytesC l)[0 + k * 1]?=some (.base (.int .u8 l[k])):=by simp [bytesC,h]
theorem grow_any (n:Nat) (h1:1≤n) (h2:n≤1000000):AFn Tryz.prog 129 0 [.nils,.base (.int .i64 (n:Int))] mt (.osl 0 0 0 1) (up mt 0 (some [])):=by
  refine AFn.eq Tryz.func129 rfl rfl (Nat.le_of_ble_eq_true rfl) ?_
  have g1:decide ((n:Int) < 0)=false:=decide_eq_false (by omega)
  refine Wq (qW 0 1 rfl (qA rfl (Nl (Wq (Wq (qW 5 7 rfl (qM rfl (qK rfl (Nl (Wo rfl rfl (Wu (Wq (Wq (qW 17 25 rfl (qM rfl (qM rfl (Od rfl rfl (LO.cap_nil rfl rfl ty24) (qM rfl (qH rfl ty24 (Od rfl rfl (LO.sub_in rfl rfl rfl (iW _ (by omega))) (Od rfl rfl (LO.sub_in rfl rfl rfl (iW _ (by omega))) (qA rfl (Nl ?_)))))))))))))))))))))))
  rw [show (n:Int) - (0 - ((0:Nat):Int))=(n:Int) from by omega]
  have g2:decide ((n:Int) > 0)=true:=decide_eq_true (by omega)
  refine Wq (qW 29 31 rfl (qM rfl (Od rfl rfl (Gt0 rfl rfl rfl) (Nl (Wt rfl ‹_› (qW 35 45 rfl (qM rfl (qM rfl (Od rfl rfl (LO.cap_nil rfl rfl ty24) (Od rfl rfl (LO.slice_nil rfl rfl rfl ty24 ty5) (qM rfl (Od rfl rfl (LO.append_make rfl rfl rfl ty24 ty3 ty5 (by decide) (by omega) (by omega) (by omega)) (qM rfl (qH rfl ty24 (Od rfl rfl (LO.slice rfl rfl Bnd.no (Ba rfl rfl) (by omega) (by omega) ty24 ty5) (qA rfl (Nl (Wq (qW 49 51 rfl (qM rfl (qA rfl (Nl (W.rename [(0,40)] 1 (T':=up mt 4 (some (.osl 0 0 (0) 1))) (H':=up mt 0 (some ([]))) (by decide) ?_ ?_ ?_)))))))))))))))))))))))
  · exact aU (lI rfl) aM
  · exact aU (kR rfl) aM
  refine Wz ⟨.inl rfl,_,up mt 0 (some ([])),Rc (Rt rfl) Rv,aU rfl aM,?_⟩
  exact ⟨rfl,rfl⟩
theorem concat_any (L:List (List Int)) (h1:1≤L.flatten.length) (h2:L.flatten.length≤1000000) (h3:L.length≤1000):AFn Tryz.prog 89 0 [.isl (lsC L) L.length] mt (.osl 0 0 L.flatten.length 1) (up mt 0 (some (bytesC L.flatten))):=by
  refine AFn.eq Tryz.func89 rfl rfl (Nat.le_of_ble_eq_true rfl) ?_
  have hg:=grow_any L.flatten.length h1 h2
  refine Wq (qW 0 1 rfl (qA rfl (Nl (Wq (qW 5 6 rfl (qA rfl (Nl (Wq (Wq (qW 10 13 rfl (qM rfl (qH rfl ty182 (qM rfl (Nl (Wb (W.rename [] 0 (T':=up (up (up (up (up mt 0 (some (.isl (lsC L) L.length))) 3 (some (.base (.int .i64 ((L.take 0).flatten.length:Int))))) 9 (some (.isl (lsC L) L.length))) 10 (some (.base (.int .i64 (L.length:Int))))) 11 (some (.base (.int .i64 (0:Int))))) (H':=mt) (by decide) ?_ ?_ ?_))))))))))))))))
  · exact aU (lR rfl) (aU (lR rfl) (aU (lR rfl) (aU (lR rfl) (aU (lR rfl) aM))))
  · exact aM
  refine W.loop_ind (α:=Nat) (fun x=>L.length - x) 0 (fun x=>up (up (up (up (up mt 0 (some (.isl (lsC L) L.length))) 3 (some (.base (.int .i64 ((L.take x).flatten.length:Int))))) 9 (some (.isl (lsC L) L.length))) 10 (some (.base (.int .i64 (L.length:Int))))) 11 (some (.base (.int .i64 (x:Int))))) (fun x=>mt) (fun x=>x≤L.length) 0 (show 0≤L.length from Nat.zero_le _) ?_
  rintro i hIA ihA
  try (dsimp only at hIA)
  try dsimp only
  have hfl:=flat_le (L:=L) i
  by_cases hc:i < L.length
  · have g1:decide ((i:Int) < (L.length:Int))=true:=decide_eq_true (by omega)
    have hfl2:=flat_le (L:=L) (i + 1)
    have hn:=flat_take hc
    have hnl:(L.take (i + 1)).flatten.length=(L.take i).flatten.length + L[i].length:=by rw [hn,List.length_append]
    have g2:decide ((((L.take i).flatten.length:Int) + (L[i].length:Int)) < 0)=false:=decide_eq_false (by omega)
    refine Wq (qW 17 18 rfl (qK rfl (Nl (Wq (Wt rfl ‹_› (Wu (Wq (Wb (Wq (qW 22 25 rfl (qJ rfl rfl ty182 ty24 (by omega) (Od rfl rfl (Li rfl rfl (ls_at hc) ty24 rfl) (qA rfl (Nl (Wq (qW 29 34 rfl (qM rfl (qM rfl (qH rfl ty24 (qZ rfl (iW _ (by omega)) (qA rfl (Nl (Wq (qW 38 40 rfl (qM rfl (qK rfl (Nl (Wo rfl rfl (Wu (qW 50 52 rfl (qZ rfl (iW _ (by omega)) (qM rfl (Nl ?_)))))))))))))))))))))))))))))))))
    rw [show (((L.take i).flatten.length:Int) + (L[i].length:Int))=((L.take (i + 1)).flatten.length:Int) from by rw [hnl];omega]
    refine WL.rename [] 0 (by decide) ?_ ?_ (ihA (i + 1) (show L.length - (i + 1) < L.length - i from by omega) (show (i + 1)≤L.length from by omega))
    · exact aU (lR rfl) (aU (lR rfl) (aU (lR rfl) (aU (lR rfl) (aU (lR rfl) aM))))
    · exact aM
  · have g1:decide ((i:Int) < (L.length:Int))=false:=decide_eq_false (by omega)
    refine Wq (qW 17 18 rfl (qK rfl (Nl (Wq (Wo rfl ‹_› (Wx ?_))))))
    obtain rfl:i=L.length:=by omega
    rw [List.take_length]
    refine Wq (qW 56 59 rfl (qM rfl (Od rfl rfl (LO.callO (fr:=[]) rfl rfl (hg) fok129 (.cons rfl (.pure rfl) (.cons rfl (.pure rfl) .nil)) rfl (by decide)) (qA rfl (Nl (Wq (Wq (qW 63 66 rfl (qM rfl (qH rfl ty182 (qM rfl (Nl (Wb (W.rename [(0,57)] 1 (T':=up (up (up (up mt 6 (some (.osl 0 0 (([]:List Int)).length 1))) 25 (some (.isl (lsC L) L.length))) 26 (some (.base (.int .i64 (L.length:Int))))) 27 (some (.base (.int .i64 (0:Int))))) (H':=up mt 0 (some (bytesC (([]:List Int))))) (by decide) ?_ ?_ ?_))))))))))))))
    · exact aU (lR rfl) (aU (lR rfl) (aU (lR rfl) (aU (lI rfl) aM)))
    · exact aU (kR rfl) aM
    refine W.loop_ind (α:=Nat × List Int) (fun x=>L.length - x.1) 1 (fun x=>up (up (up (up mt 6 (some (.osl 0 0 x.2.length 1))) 25 (some (.isl (lsC L) L.length))) 26 (some (.base (.int .i64 (L.length:Int))))) 27 (some (.base (.int .i64 (x.1:Int))))) (fun x=>up mt 0 (some (bytesC x.2))) (fun x=>x.1≤L.length∧x.2=(L.take x.1).flatten) (0,(([]:List Int))) (show 0≤L.length∧(([]:List Int))=(L.take 0).flatten from ⟨Nat.zero_le _,rfl⟩) ?_
    rintro ⟨i,acc⟩ hIB ihB
    try (dsimp only at hIB)
    try dsimp only
    obtain ⟨hi,hacc⟩:=hIB
    have hfl:=flat_le (L:=L) i
    rw [← hacc] at hfl
    by_cases hc:i < L.length
    · have g1:decide ((i:Int) < (L.length:Int))=true:=decide_eq_true (by omega)
      have hfl2:=flat_le (L:=L) (i + 1)
      have hn:=flat_take hc
      rw [← hacc] at hn
      have hnl:(acc++L[i]).length≤L.flatten.length:=by rw [← hn];exact hfl2
      rw [List.length_append] at hnl
      refine Wq (qW 70 71 rfl (qK rfl (Nl (Wq (Wt rfl ‹_› (Wu (Wq (Wb (Wq (qW 75 78 rfl (qJ rfl rfl ty182 ty24 (by omega) (Od rfl rfl (Li rfl rfl (ls_at hc) ty24 rfl) (qA rfl (Nl (qW 82 86 rfl (qM rfl (qM rfl (Od rfl rfl (Lap rfl rfl (Ssi rfl rfl (by simp [bytesC])) rfl (bytes_tk rfl) ty24 ty24 ty5 (by decide) (by omega) (by omega) (by decide)) (qA rfl (Nl (qW 90 92 rfl (qZ rfl (iW _ (by omega)) (qM rfl (Nl ?_))))))))))))))))))))))))
      rw [show bytesC acc++bytesC L[i]=bytesC (acc++L[i]) from by simp [bytesC],show acc.length + L[i].length=(acc++L[i]).length from by simp]
      refine WL.rename [(0,84)] 1 (by decide) ?_ ?_ (ihB ((i + 1),(acc++L[i])) (show L.length - (i + 1) < L.length - i from by omega) (show (i + 1)≤L.length∧(acc++L[i])=(L.take (i + 1)).flatten from ⟨by omega,hn.symm⟩))
      · exact aU (lR rfl) (aU (lR rfl) (aU (lR rfl) (aU (lI rfl) aM)))
      · exact aU (⟨rfl,_,rfl,.inr ⟨rfl,by first|rfl|assumption|exact (bytesC_pure _)|exact (lsC_pure _)⟩⟩) aM
    · have g1:decide ((i:Int) < (L.length:Int))=false:=decide_eq_false (by omega)
      refine Wq (qW 70 71 rfl (qK rfl (Nl (Wq (Wo rfl ‹_› (Wx ?_))))))
      obtain rfl:i=L.length:=by omega
      rw [List.take_length] at hacc
      subst hacc
      refine Wq (qW 96 98 rfl (qM rfl (qA rfl (Nl (W.rename [(0,0)] 1 (T':=up mt 2 (some (.osl 0 0 (L.flatten.length) 1))) (H':=up mt 0 (some (bytesC L.flatten))) (by decide) ?_ ?_ ?_)))))
      · exact aU (lI rfl) aM
      · exact aU (⟨rfl,_,rfl,.inr ⟨rfl,by first|rfl|assumption|exact (bytesC_pure _)|exact (lsC_pure _)⟩⟩) aM
      refine Wz ⟨.inl rfl,_,up mt 0 (some (bytesC L.flatten)),Rc (Rt rfl) Rv,aU rfl aM,?_⟩
      exact ⟨rfl,rfl⟩
def hashK (l:List Int) (k:Nat):Int:=((List.range k).map fun (j:Nat)=>((j:Int) + 1) * gI l j).sum
theorem hashK_succ (l:List Int) (k:Nat):hashK l (k + 1)=hashK l k + ((k:Int) + 1) * gI l k:=by
  unfold hashK;rw [List.range_succ,List.map_append,List.sum_append];simp
def hashF (l:List Int):Int:=hashK l l.length % 65521
def IsBy (l:List Int):Prop:=∀ x∈l,0≤x∧x≤255
theorem hash_term {l:List Int} (hb:IsBy l) (h12:l.length=12) {k:Nat} (hk:k < 12):0≤((k:Int) + 1) * gI l k∧((k:Int) + 1) * gI l k≤3060:=by
  have h1:=hb (l[k]'(by omega)) (List.getElem_mem _)
  rw [gI_at (by omega)]
  generalize l[k]'(by omega)=x at h1
  have h2:0≤((k:Int) + 1) * x:=Int.mul_nonneg (by omega) h1.1
  have h3:((k:Int) + 1) * x≤12 * 255:=Int.mul_le_mul (by omega) h1.2 h1.1 (by omega)
  omega
theorem hashK_bd {l:List Int} (hb:IsBy l) (h12:l.length=12) (k:Nat) (hk:k≤12):0≤hashK l k∧hashK l k≤k * 3060:=by
  induction k with
  | zero=>simp [hashK]
  | succ k ih =>
    rw [hashK_succ]
    have:=ih (by omega)
    have:=hash_term hb h12 (k:=k) (by omega)
    omega
theorem IsBy.app {a b:List Int} (ha:IsBy a) (hb:IsBy b):IsBy (a++b):=fun x hx=>(List.mem_append.1 hx).elim (ha x) (hb x)
theorem hash_any (a b:List Int) (ha:a.length=6) (hb:b.length=6) (hba:IsBy a) (hbb:IsBy b):AFn Tryz.prog 45 0 [.agg (bytesC a),.agg (bytesC b)] mt (.base (.int .i64 (hashF (a++b)))) mt:=by
  refine AFn.eq Tryz.func45 rfl rfl (Nat.le_of_ble_eq_true rfl) ?_
  have h12:(a++b).length=12:=by rw [List.length_append,ha,hb]
  have hcc:=concat_any [a,b] (by simp;omega) (by simp;omega) (by simp)
  rw [show [a,b].flatten=a++b from by simp,h12,show lsC [a,b]=[.isl (bytesC a) a.length,.isl (bytesC b) b.length] from rfl,ha,hb] at hcc
  have hby:=hba.app hbb
  unfold hashF
  rw [h12]
  generalize hl:a++b=l at *
  refine Wq (qW 0 3 rfl (qC rfl (qC rfl (qA rfl (Nl (Wq (qW 7 8 rfl (qA rfl (Nl (Wq (Wq (Wd 12 18 (by decide) rfl mixed rfl (Od rfl rfl (LO.slice_arf rfl rfl rfl ty23 ty5 (bytes_tk ha) (bytesC_pure _) (by decide)) (Od rfl rfl (LO.slice_arf rfl rfl rfl ty23 ty5 (bytes_tk hb) (bytesC_pure _) (by decide)) (Od rfl rfl (LO.buildSlice rfl ty182 ty24 (by decide) (by decide) (.cons rfl rfl rfl rfl (Sl rfl) (.cons rfl rfl rfl rfl (Sl rfl) .nil))) (Od rfl rfl (LO.callO (fr:=[14]) rfl rfl (hcc) fok89 (.cons rfl (.one (.osl (by decide) rfl (Tl rfl) rfl)) .nil) (bytesC_pure _) (by decide)) (Od rfl rfl (LO.len rfl rfl ty24) (qM rfl (Nl ⟨by kernel_rfl,(Wb (W.loop_keep (α:=Nat) (fun x=>12 - x) 1 (fun x=>[(5,.base (.int .i64 (hashK l x))),(11,.osl 0 0 12 1),(13,.base (.int .i64 (x:Int)))]) (fun x=>up mt 0 (some (bytesC l))) (fun x=>x≤12) 0 [(0,15)] (.cons (t:=12) rfl (by exact .inl rfl) .nil) (show 0≤12 from Nat.zero_le _) (by decide) ?_ ?_ ?_))⟩)))))))))))))))))))
  · exact lC (lR rfl) (lC (lI rfl) (lC (lR rfl) lN))
  · exact aU (⟨rfl,_,rfl,.inr ⟨rfl,by first|rfl|assumption|exact (bytesC_pure _)⟩⟩) aM
  rintro i hIA ihA
  try (dsimp only at hIA)
  try dsimp only [baseT,List.cons_append,List.nil_append]
  by_cases hc:i < 12
  · have g1:decide ((i:Int) < 12)=true:=decide_eq_true (by omega)
    have hk:=hashK_bd hby h12 i hIA
    have ht:=hash_term hby h12 hc
    have hs:=hashK_succ l i
    have hil:i < l.length:=by omega
    rw [gI_at hil] at ht hs
    have hb2:=hby l[i] (List.getElem_mem _)
    refine Wq (qW 22 23 rfl (qK rfl (Nl (Wq (Wt rfl ‹_› (Wu (Wq (Wb (Wq (qW 27 32 rfl (qM rfl (Od rfl rfl (Ia rfl rfl rfl rfl ty24 ty5 (by omega)) (Od rfl rfl (Ld rfl rfl rfl (by_atI hil) ty5 rfl) (qA rfl (qA rfl (Nl (qW 36 44 rfl (qM rfl (qM rfl (qZ rfl (iW _ (by omega)) (qM rfl (Od rfl rfl (Ci rfl rfl ty5 ty3 (iW _ (by omega))) (Od rfl rfl (LO.mul_in rfl rfl rfl (iW _ (by omega))) (qZ rfl (iW _ (by omega)) (qA rfl (Nl ?_))))))))))))))))))))))))))
    rw [← hs]
    refine qW 48 50 rfl (qZ rfl (iW _ (by omega)) (qM rfl (Nl (WL.renameL [(0,0)] 1 (by decide) ?_ ?_ (ihA (i + 1) (show 12 - (i + 1) < 12 - i from by omega) (show (i + 1)≤12 from by omega))))))
    · exact lC (lR rfl) (lC (lI rfl) (lC (lR rfl) (lC (lR rfl) lN)))
    · exact aU (⟨rfl,_,rfl,.inr ⟨rfl,by first|rfl|assumption|exact (bytesC_pure _)⟩⟩) aM
  · have g1:decide ((i:Int) < 12)=false:=decide_eq_false (by omega)
    refine Wq (qW 22 23 rfl (qK rfl (Nl (Wq (Wo rfl ‹_› (Wx ?_))))))
    obtain rfl:i=12:=by omega
    have hk:=hashK_bd hby h12 12 (by omega)
    refine Wq (qW 54 57 rfl (qM rfl (Od rfl rfl (LO.rem_in rfl rfl rfl (by omega) (by omega)) (qA rfl (Nl (Wz ⟨.inl rfl,_,mt,Rc (Rt rfl) (Rv),aM,?_⟩))))))
    exact ⟨rfl,rfl⟩
end Go.Proofs.YtlcndmciognneaaGreatDoor
namespace Go.Proofs.YtlcndmciognneaaGreatDoor
open Go.RowKit
end Go.Proofs.YtlcndmciognneaaGreatDoor
namespace Go.Proofs.YtlcndmciognneaaGreatDoor
open Go.RowKit
def fab2:Fab:=⟨2,[⟨1,0,1⟩],[false],[false,false]⟩
theorem fab2_s:FabS fab2:=⟨rfl,by decide,by decide⟩
theorem fab2_e:EndsIn fab2:=fun i l h=>by
  match i with
  | 0=>simp [fab2] at h;subst h;decide
  | i + 1=>simp [fab2] at h
theorem fab2_w1:wayF fab2 0 1 5=some [0]:=by decide +kernel
theorem fab2_w2:wayF fab2 0 2 5=none:=by decide +kernel
theorem awake14_any:AFn Tryz.prog 14 0 [] mt (.base (.bool true)) mt:=by
  refine AFn.eq Tryz.func14 rfl rfl (Nat.le_of_ble_eq_true rfl) ?_
  have h1:=way_any fab2 fab2_s fab2_e 0 1 5
  have h2:=way_any fab2 fab2_s fab2_e 0 2 5
  rw [fab2_w1] at h1
  rw [fab2_w2] at h2
  have h3:=hash_any [1,1,0,0,0,0] [0,0,0,0,0,2] rfl rfl (by unfold IsBy;decide) (by unfold IsBy;decide)
  refine Wq (qW 0 1 rfl (qA rfl (Nl (Wq (Wd 5 12 (by decide) rfl mixed rfl (Od rfl rfl (Bs rfl ty99 (.cons rfl rfl rfl rfl (Sl rfl) (.cons rfl rfl rfl rfl (Sl rfl) (.cons rfl rfl rfl rfl (Sl rfl) .nil)))) (Od rfl rfl (LO.buildSlice rfl ty32 ty99 (by decide) (by decide) (.cons rfl rfl rfl rfl (Sl rfl) .nil)) (Od rfl rfl (LO.makeSlice rfl rfl rfl rfl rfl ty33 ty4 (by decide) (by omega) (by decide) (by decide)) (Od rfl rfl (LO.makeSlice rfl rfl rfl rfl rfl ty33 ty4 (by decide) (by omega) (by decide) (by decide)) (Od rfl rfl (Bs rfl ty35 (.cons rfl rfl rfl rfl (Sl rfl) (.cons rfl rfl rfl rfl (Sl rfl) (.cons rfl rfl rfl rfl (Sl rfl) (.cons rfl rfl rfl rfl (Sl rfl) .nil))))) (qB rfl ty35 (qS rfl ty35 (Sl rfl) rfl (Nl ⟨by kernel_rfl,(Wv (q:=10) (j:=1) (r:=6) rfl rfl (by decide) rfl (Tl rfl) rfl (Sl rfl) (Wv (q:=10) (j:=2) (r:=7) rfl rfl (by decide) rfl (Tl rfl) rfl (Sl rfl) (Wv (q:=10) (j:=3) (r:=8) rfl rfl (by decide) rfl (Tl rfl) rfl (Sl rfl) (Wq (qW 16 23 rfl (qG rfl ty35 rfl (Tl rfl) (qY rfl (h1) fok44 rfl (qM rfl (qX rfl (qX rfl (qA rfl (qA rfl (Nl (Wq (qW 27 34 rfl (qG rfl ty35 rfl (Tl rfl) (qY rfl (h2) fok44 rfl (qM rfl (qX rfl (qX rfl (qA rfl (qA rfl (Nl (Wq (qW 38 61 rfl (qM rfl (qM rfl (qU rfl rfl rfl (Mv rfl rfl) (qU rfl rfl rfl (Ln rfl rfl rfl ty27) (qU rfl rfl rfl (Eq0 rfl rfl rfl) (qT rfl rfl rfl (qM rfl (qU rfl rfl rfl (Mv rfl rfl) (qU rfl rfl rfl (Ii rfl rfl rfl rfl rfl ty27 ty3 (by decide)) (qU rfl rfl rfl (Li rfl rfl rfl ty3 rfl) (qU rfl rfl rfl (Eq0 rfl rfl rfl) (qT rfl rfl rfl (qM rfl (qU rfl rfl rfl (Mv rfl rfl) (qU rfl rfl rfl (Nt rfl rfl) (qT rfl rfl rfl (qM rfl (qU rfl rfl rfl (LO.build_ar rfl ty23 ty5 (.cons rfl rfl rfl rfl (Sl rfl) (.cons rfl rfl rfl rfl (Sl rfl) .nil))) (qU rfl rfl rfl (LO.build_ar rfl ty23 ty5 (.cons rfl rfl rfl rfl (Sl rfl) (.cons rfl rfl rfl rfl (Sl rfl) (.cons rfl rfl rfl rfl (Sl rfl) (.cons rfl rfl rfl rfl (Sl rfl) (.cons rfl rfl rfl rfl (Sl rfl) (.cons rfl rfl rfl rfl (Sl rfl) .nil))))))) (qU rfl rfl rfl (C0 (fr:=[]) rfl rfl (h3) fok45 (.cons rfl (.pure rfl) (.cons rfl (.pure rfl) .nil)) rfl) (qU rfl rfl rfl (Eq0 rfl rfl rfl) (qT rfl rfl rfl (qA rfl (Nl (Wz ⟨.inl rfl,_,mt,Rc (Rt rfl) (Rv),aM,?_⟩))))))))))))))))))))))))))))))))))))))))))))))))))⟩)))))))))))))
  exact ⟨rfl,rfl⟩
theorem FabOK.ends {f:Fab} (h:FabOK f):EndsIn f:=fun i l hl=>by
  obtain ⟨h1,h2,h3,h4,_⟩:=h.links l (List.mem_of_getElem? hl)
  have:=h.dead
  exact ⟨h1,by omega,h3,by omega⟩
theorem wayL_len (f:Fab) (d:List Int) (h:Int) (m:Nat) (at_:Int):(wayL f d h m at_).length=m:=by
  induction m generalizing at_ with
  | zero=>rfl
  | succ m ih=>show (_::wayL f d h m _).length=m + 1;rw [List.length_cons,ih]
theorem wayF_len {f:Fab} (hf:FabS f) (frm to h:Int):((wayF f frm to h).getD []).length≤8:=by
  unfold wayF
  split
  · rename_i h0
    rw [Option.getD_some,wayL_len]
    obtain ⟨h1,h2⟩:=gI_range h0
    rw [dist_len] at h2
    have:=dist_lt f to frm (by omega)
    have:=hf.n8
    omega
  · simp
end Go.Proofs.YtlcndmciognneaaGreatDoor
namespace Go.Proofs.YtlcndmciognneaaGreatDoor
open Go.RowKit
def zRl:Rl:=⟨0,0,0,[],[],[],0,0⟩
def ruleD (l:List Rl) (p:Int):Rl:=(ruleF l p).getD zRl
def ruleV (l:List Rl) (p:Int):AV:=.tup [.agg (ruleC (ruleD l p)),.base (.bool (ruleF l p).isSome)]
theorem ruleF_mem:∀ {l:List Rl} {p:Int} {r:Rl},ruleF l p=some r→r∈l∧r.port=p:=by
  intro l
  induction l with
  | nil=>intro p r h;cases h
  | cons x l ih =>
    intro p r h
    rw [show ruleF (x::l) p=if x.port == p then some x else ruleF l p from rfl] at h
    split at h
    · rename_i he
      injection h with h
      subst h
      exact ⟨by simp,by simpa using he⟩
    · obtain ⟨h1,h2⟩:=ih h
      exact ⟨by simp [h1],h2⟩
theorem ruleE_any (l:List Rl) (p:Int) (hl:l.length≤1000) (hr:∀ x,x∈l→RlOk x):AFn Tryz.prog 52 0 [.isl (rulesC l) l.length,.base (.int .i64 p)] mt (ruleV l p) mt:=by
  refine AFn.eq Tryz.func52 rfl rfl (Nat.le_of_ble_eq_true rfl) ?_
  unfold ruleV ruleD
  refine Wq (qW 0 2 rfl (qB rfl ty39 (qA rfl (Nl (Wq (Wq (qW 6 9 rfl (qM rfl (qH rfl ty30 (qM rfl (Nl (Wb (W.loop_keep (α:=Nat) (fun x=>l.length - x) 1 (fun x=>[(4,.own 0 0),(10,.base (.int .i64 (x:Int)))]) (fun x=>up mt 0 (some ([.base (.int .i64 0),.base (.int .i64 0),.base (.int .i64 0),.nils,.nils,.nils,.base (.int .i64 0),.base (.int .i64 0)]))) (fun x=>x≤l.length∧ruleF (l.drop x) p=ruleF l p) 0 [(0,0)] (.cons (t:=1) rfl (by exact .inl rfl) (.cons (t:=8) rfl (by exact .inl rfl) (.cons (t:=9) rfl (by exact .inl rfl) .nil))) (show 0≤l.length∧ruleF (l.drop 0) p=ruleF l p from ⟨Nat.zero_le _,rfl⟩) (by decide) ?_ ?_ ?_)))))))))))))
  · exact lC (lI rfl) (lC (lR rfl) lN)
  · exact aU (kR rfl) aM
  rintro i hIA ihA
  try (dsimp only at hIA)
  try dsimp only [baseT,List.cons_append,List.nil_append]
  obtain ⟨hi,hw⟩:=hIA
  by_cases hc:i < l.length
  · have g1:decide ((i:Int) < (l.length:Int))=true:=decide_eq_true (by omega)
    have how:=owned_any _ (hr _ (List.getElem_mem hc))
    have hdr:ruleF (l.drop i) p=if l[i].port == p then some l[i] else ruleF (l.drop (i + 1)) p:=by
      rw [List.drop_eq_getElem_cons hc];rfl
    refine Wq (qW 13 14 rfl (qK rfl (Nl (Wq (Wt rfl ‹_› (Wu (Wq (Wb (Wq (qW 18 22 rfl (qJ rfl rfl ty30 ty39 (by omega) (Od rfl rfl (Lg rfl rfl ty39 rfl (rules_tk hc)) (qB rfl ty39 (qS rfl ty39 (Sl rfl) rfl (Nl ?_)))))))))))))))
    generalize l[i]=x at *
    rw [hdr] at hw
    cases k1:(x.port == p)
    ·
      rw [k1] at hw
      refine Wq (qW 26 30 rfl (qF rfl ty39 rfl (qL rfl ty3 rfl (qM rfl (qE rfl (Nl (Wo rfl ‹_› (Wu (qW 42 44 rfl (qZ rfl (iW _ (by omega)) (qM rfl (Nl (WL.renameL [(0,0)] 1 (by decide) ?_ ?_ (ihA (i + 1) (show l.length - (i + 1) < l.length - i from by omega) (show (i + 1)≤l.length∧ruleF (l.drop (i + 1)) p=ruleF l p from ⟨by omega,hw⟩)))))))))))))))
      · exact lC (lI rfl) (lC (lR rfl) (lC (lR rfl) (lC (lR rfl) (lC (lR rfl) lN))))
      · exact aU (kR rfl) aM
    ·
      rw [k1] at hw
      have e:ruleF l p=some x:=by rw [← hw];rfl
      rw [e]
      refine Wq (qW 26 30 rfl (qF rfl ty39 rfl (qL rfl ty3 rfl (qM rfl (qE rfl (Nl (Wt rfl ‹_› (Wq (qW 34 38 rfl (qG rfl ty39 rfl (Tl rfl) (qY rfl (how) fok102 rfl (qS rfl ty39 (Sl rfl) rfl (qA rfl (Nl ?_))))))))))))))
      refine W.ret ⟨.inl rfl,_,mt,(RVs.cons (RV.cellA rfl rfl ty39 rfl (Tk.lit rfl)) (RVs.cons (RV.tmp rfl) RVs.nil)),(by (repeat' (first|exact all_mt|refine all_up ?_ ?_))<;>rfl),?_⟩
      exact ⟨rfl,rfl⟩
  · have g1:decide ((i:Int) < (l.length:Int))=false:=decide_eq_false (by omega)
    obtain rfl:i=l.length:=by omega
    rw [List.drop_length] at hw
    rw [← hw]
    refine Wq (qW 13 14 rfl (qK rfl (Nl (Wq (Wo rfl ‹_› (Wx (Wq (qW 48 51 rfl (Od rfl rfl (Bs rfl ty39 .nil) (qS rfl ty39 (Sl rfl) rfl (qA rfl (Nl (W.nilc (q:=0) (j:=3) rfl rfl (Sl rfl) (W.nilc (q:=0) (j:=4) rfl rfl (Sl rfl) (W.nilc (q:=0) (j:=5) rfl rfl (Sl rfl) ?_)))))))))))))))
    refine W.ret ⟨.inl rfl,_,mt,(RVs.cons (RV.cellA rfl rfl ty39 rfl (Tk.lit rfl)) (RVs.cons (RV.tmp rfl) RVs.nil)),(by (repeat' (first|exact all_mt|refine all_up ?_ ?_))<;>rfl),?_⟩
    exact ⟨rfl,rfl⟩
structure Bk where
  lv:Int
  rate:Int
  burst:Int
def bkC (b:Bk):List AV:=[.base (.int .i64 b.lv),.base (.int .i64 b.rate),.base (.int .i64 b.burst)]
def BkOk (b:Bk):Prop:=(0≤b.lv∧b.lv≤1000000)∧(0≤b.rate∧b.rate≤1000000)∧0≤b.burst∧b.burst≤1000000
theorem takeE_any (b:Bk) (hb:BkOk b):AFn Tryz.prog 53 0 [.agg (bkC b)] mt (.tup [.agg (bkC (if decide (b.lv≤0) then b else ⟨b.lv - 1,b.rate,b.burst⟩)),.base (.bool (!decide (b.lv≤0)))]) mt:=by
  refine AFn.eq Tryz.func53 rfl rfl (Nat.le_of_ble_eq_true rfl) ?_
  obtain ⟨lv,rate,burst⟩:=b
  obtain ⟨h1,h2,h3⟩:=hb
  dsimp only at h1 h2 h3 ⊢
  refine Wq (qW 0 3 rfl (qC rfl (qB rfl ty46 (qA rfl (Nl ?_)))))
  cases k1:decide (lv≤0)
  ·
    have hwr:IntKind.i64.wrap (lv - 1)=lv - 1:=IntWalk.i64_in _ (by omega)
    refine Wq (Wq (qW 7 10 rfl (qF rfl ty46 rfl (qL rfl ty3 rfl (Od rfl rfl (Le0 rfl rfl rfl) (Nl (Wo rfl ‹_› (Wu (Wq (qW 21 26 rfl (qF rfl ty46 rfl (qL rfl ty3 rfl (Od rfl rfl (LO.sub_in rfl rfl rfl hwr) (qF rfl ty46 rfl (qS rfl ty3 (Sl rfl) rfl (Nl (Wq (qW 30 33 rfl (qG rfl ty46 rfl (Tl rfl) (qS rfl ty46 (Sl rfl) rfl (qA rfl (Nl ?_))))))))))))))))))))))
    refine W.ret ⟨.inl rfl,_,mt,(RVs.cons (RV.cellA rfl rfl ty46 rfl (Tk.lit rfl)) (RVs.cons (RV.tmp rfl) RVs.nil)),(by (repeat' (first|exact all_mt|refine all_up ?_ ?_))<;>rfl),?_⟩
    exact ⟨rfl,rfl⟩
  ·
    refine Wq (Wq (qW 7 10 rfl (qF rfl ty46 rfl (qL rfl ty3 rfl (Od rfl rfl (Le0 rfl rfl rfl) (Nl (Wt rfl ‹_› (Wq (qW 14 17 rfl (qG rfl ty46 rfl (Tl rfl) (qS rfl ty46 (Sl rfl) rfl (qA rfl (Nl ?_)))))))))))))
    refine W.ret ⟨.inl rfl,_,mt,(RVs.cons (RV.cellA rfl rfl ty46 rfl (Tk.lit rfl)) (RVs.cons (RV.tmp rfl) RVs.nil)),(by (repeat' (first|exact all_mt|refine all_up ?_ ?_))<;>rfl),?_⟩
    exact ⟨rfl,rfl⟩
structure Dl where
  port:Int
  links:List Int
  fr:Fr
def dlC (d:Dl):List AV:=[.base (.int .i64 d.port),.isl (intsC d.links) d.links.length]++frC d.fr
def zDl:Dl:=⟨0,[],zFr⟩
def fwdB (r0 v0:Bool) (v:Int) (gr l0:Bool) (bk:Bk) (d0:Bool) (d:Int × Fr × Int) (w:Option (List Int)):Dl × Bk × Int :=
  if !r0 then (zDl,bk,1) else if v0 then (zDl,bk,v) else if gr && l0 then (zDl,bk,12)
  else if d0 then (zDl,if gr then ⟨bk.lv - 1,bk.rate,bk.burst⟩ else bk,d.2.2)
  else match w with
    | none=>(zDl,if gr then ⟨bk.lv - 1,bk.rate,bk.burst⟩ else bk,14)
    | some l=>(⟨d.1,l,d.2.1⟩,if gr then ⟨bk.lv - 1,bk.rate,bk.burst⟩ else bk,0)
def fwdW (rs:List Rl) (bs:List Bd) (f:Fab) (p:Int) (x:Fr):Option (List Int):=wayF f (ruleD rs p).sw (ruleD rs (dlvF rs bs p x).1).sw (hashF (x.src++(dlvF rs bs p x).2.1.dst))
def fwdF (rs:List Rl) (bs:List Bd) (f:Fab) (bk:Bk) (p:Int) (x:Fr):Dl × Bk × Int :=
  fwdB (ruleF rs p).isSome (chqV (ruleD rs p) x != 0) (chqV (ruleD rs p) x) (grpE x.dst) (decide (bk.lv≤0)) bk ((dlvF rs bs p x).2.2 != 0) (dlvF rs bs p x) (fwdW rs bs f p x)
def fwdV (s:Dl × Bk × Int):AV:=.tup [.agg (dlC s.1),.agg (bkC s.2.1),.base (.int .i64 s.2.2)]
/-- what is delivered goes to a port that is there -/
def Full (rs:List Rl) (bs:List Bd) (p:Int) (x:Fr):Prop:=(dlvF rs bs p x).2.2=0→(∃ r,ruleF rs (dlvF rs bs p x).1=some r)∧IsB (dlvF rs bs p x).2.1.dst
theorem dlvF_okX {rs:List Rl} {bs:List Bd} {fm:Int} {f:Fr} (ht:TablesOk rs bs) (hf:FrX f):FrOk (dlvF rs bs fm f).2.1:=by
  unfold dlvF
  split
  · exact ⟨rfl,rfl,fun x hx=>by simp [zFr] at hx,by simp [zFr]⟩
  · exact ⟨tgtF_len ht hf.ok,hf.ok.s6,hf.ok.bB,hf.ok.bl⟩
set_option maxHeartbeats 8000000 in
theorem sendE_any (rs:List Rl) (bs:List Bd) (f:Fab) (bk:Bk) (p:Int) (x:Fr) (hrs:rs.length≤1000) (hro:∀ r,r∈rs→RlOk r) (ht:TablesOk rs bs) (hf:FabS f) (he:EndsIn f) (hb:BkOk bk) (hx:FrX x) (hfull:Full rs bs p x) :
    AFn Tryz.prog 18 0 [.isl (rulesC rs) rs.length,.isl (bdsC bs) bs.length,.agg (preC lan4),.agg (preC lan6),.agg (fabC f),.agg (bkC bk),.base (.int .i64 p),.agg (frC x)] mt (fwdV (fwdF rs bs f bk p x)) mt:=by
  refine AFn.eq Tryz.func18 rfl rfl (Nat.le_of_ble_eq_true rfl) ?_
  have hru:=ruleE_any rs p hrs hro
  have hg:=grE_any x hx
  have htk:=takeE_any bk hb
  have hdl:=deliver_any rs bs p x ht hx.ok
  have hru2:=ruleE_any rs (dlvF rs bs p x).1 hrs hro
  have hok:=dlvF_okX (fm:=p) ht hx
  have hck:=fun r hr=>fchE_any r (RlOk.g (hro r hr)) x hx
  have hmem:=fun r=>@ruleF_mem rs p r
  have hwy:=fun a b h=>way_any f hf he a b h
  have hsB:=hx.sB
  unfold Full at hfull
  unfold fwdF fwdW
  unfold ruleV at hru hru2
  unfold ruleD at hru hru2 ⊢
  unfold dlvV at hdl
  generalize dlvF rs bs p x=d at *
  obtain ⟨dp,⟨dd,ds,dv,dt,dx⟩,dw⟩:=d
  dsimp only at hdl hru2 hok hfull ⊢
  have o6:=hok.d6
  have u6:=hok.s6
  dsimp only at o6 u6
  clear hok
  obtain ⟨e0,e1,e2,e3,e4,e5,rfl⟩:=six_of o6
  obtain ⟨f0,f1,f2,f3,f4,f5,rfl⟩:=six_of u6
  generalize ruleF rs p=R1 at *
  generalize ruleF rs dp=R2 at *
  generalize grpE x.dst=gr at *
  obtain ⟨l0,hl0⟩:∃ b,decide (bk.lv≤0)=b:=⟨_,rfl⟩
  rw [hl0] at htk ⊢
  obtain ⟨d0,hd0⟩:∃ b,(dw != 0)=b:=⟨_,rfl⟩
  rw [hd0]
  obtain ⟨lv,rate,burst⟩:=bk
  dsimp only at htk hl0
  obtain ⟨fd,fs,fv,ft,fx⟩:=x
  have p6:=hx.ok.d6
  have q6:=hx.ok.s6
  clear hx hb
  dsimp only at p6 q6 hg hsB ⊢
  obtain ⟨p0,p1,p2,p3,p4,p5,rfl⟩:=six_of p6
  obtain ⟨q0,q1,q2,q3,q4,q5,rfl⟩:=six_of q6
  refine Wq (qW 0 8 rfl (qC rfl (qC rfl (qC rfl (qC rfl (qC rfl (qB rfl ty49 (qB rfl ty46 (qA rfl (Nl (Wq (qW 12 15 rfl (Od rfl rfl (Bs rfl ty49 .nil) (qB rfl ty49 (qS rfl ty49 (Sl rfl) rfl (Nl (W.nilc (q:=13) (j:=1) rfl rfl (Sl rfl) (W.nilc (q:=13) (j:=16) rfl rfl (Sl rfl) ?_))))))))))))))))))
  cases R1 with
  | none =>
    refine Wq (qW 19 28 rfl (qM rfl (qM rfl (qY rfl (hru) fok52 rfl (qM rfl (qX rfl (qX rfl (qB rfl ty39 (qS rfl ty39 (Sl rfl) rfl (qA rfl (Nl (Wq (Wq (qW 32 34 rfl (qM rfl (qO rfl (Nl (Wt rfl rfl (Wq (Wd 38 43 (by decide) rfl mixed rfl (qG rfl ty49 rfl (Tl rfl) (qG rfl ty46 rfl (Tl rfl) (qS rfl ty49 (Sl rfl) rfl (qS rfl ty46 (Sl rfl) rfl (qA rfl (Nl ⟨by kernel_rfl,?_⟩))))))))))))))))))))))))))
    refine W.ret ⟨.inl rfl,_,mt,(RVs.cons (RV.cellA rfl rfl ty49 rfl (Tk.lit rfl)) (RVs.cons (RV.cellA rfl rfl ty46 rfl (Tk.lit rfl)) (RVs.cons (RV.tmp rfl) RVs.nil))),(by (repeat' (first|exact all_mt|refine all_up ?_ ?_))<;>rfl),?_⟩
    exact ⟨rfl,rfl⟩
  | some r =>
    have hchk:=hck r (hmem r rfl).1
    clear hck hmem
    dsimp only [Option.getD_some,Option.isSome_some] at hru ⊢
    generalize chqV r ⟨[p0,p1,p2,p3,p4,p5],[q0,q1,q2,q3,q4,q5],fv,ft,fx⟩=v at *
    obtain ⟨v0,hv0⟩:∃ b,(v != 0)=b:=⟨_,rfl⟩
    rw [hv0]
    obtain ⟨r1,r2,sw,r4,r5,r6,r7,r8⟩:=r
    dsimp only at hchk ⊢
    refine Wq (qW 19 28 rfl (qM rfl (qM rfl (qY rfl (hru) fok52 rfl (qM rfl (qX rfl (qX rfl (qB rfl ty39 (qS rfl ty39 (Sl rfl) rfl (qA rfl (Nl (Wq (Wq (qW 32 34 rfl (qM rfl (qO rfl (Nl (Wo rfl rfl (Wu (Wq (Wq (qW 47 53 rfl (qG rfl ty39 rfl (Tl rfl) (qG rfl ty56 rfl (Tl rfl) (qG rfl ty56 rfl (Tl rfl) (qG rfl ty26 rfl (Tl rfl) (qY rfl (hchk) fok26 rfl (qA rfl (Nl ?_)))))))))))))))))))))))))))))
    cases v0
    case' true =>
      refine Wq (qW 57 59 rfl (qM rfl (qN rfl (Nl (Wt rfl ‹_› (Wq (Wd 63 69 (by decide) rfl mixed rfl (qG rfl ty49 rfl (Tl rfl) (qG rfl ty46 rfl (Tl rfl) (qM rfl (qS rfl ty49 (Sl rfl) rfl (qS rfl ty46 (Sl rfl) rfl (qA rfl (Nl ⟨by kernel_rfl,?_⟩))))))))))))))
      refine W.ret ⟨.inl rfl,_,mt,(RVs.cons (RV.cellA rfl rfl ty49 rfl (Tk.lit rfl)) (RVs.cons (RV.cellA rfl rfl ty46 rfl (Tk.lit rfl)) (RVs.cons (RV.tmp rfl) RVs.nil))),(by (repeat' (first|exact all_mt|refine all_up ?_ ?_))<;>rfl),?_⟩
      exact ⟨rfl,rfl⟩
    case' false =>
      refine Wq (qW 57 59 rfl (qM rfl (qN rfl (Nl (Wo rfl ‹_› (Wu ?_))))))
      cases gr
      case' false =>
        refine Wq (Wq (qW 73 75 rfl (qG rfl ty26 rfl (Tl rfl) (qY rfl (hg) fok34 rfl (Nl (Wo rfl rfl (Wu ?_)))))))
        generalize hlv:lv=lw
      case' true =>
        cases l0
        case' true =>
          refine Wq (Wq (qW 73 75 rfl (qG rfl ty26 rfl (Tl rfl) (qY rfl (hg) fok34 rfl (Nl (Wt rfl rfl (Wq (qW 79 86 rfl (qG rfl ty46 rfl (Tl rfl) (qY rfl (htk) fok53 rfl (qM rfl (qX rfl (qX rfl (qS rfl ty46 (Sl rfl) rfl (qA rfl (Nl (Wq (qW 90 92 rfl (qM rfl (qO rfl (Nl (Wt rfl rfl (Wq (Wd 96 101 (by decide) rfl mixed rfl (qG rfl ty49 rfl (Tl rfl) (qG rfl ty46 rfl (Tl rfl) (qS rfl ty49 (Sl rfl) rfl (qS rfl ty46 (Sl rfl) rfl (qA rfl (Nl ⟨by kernel_rfl,?_⟩))))))))))))))))))))))))))))))
          refine W.ret ⟨.inl rfl,_,mt,(RVs.cons (RV.cellA rfl rfl ty49 rfl (Tk.lit rfl)) (RVs.cons (RV.cellA rfl rfl ty46 rfl (Tk.lit rfl)) (RVs.cons (RV.tmp rfl) RVs.nil))),(by (repeat' (first|exact all_mt|refine all_up ?_ ?_))<;>rfl),?_⟩
          exact ⟨rfl,rfl⟩
        case' false =>
          refine Wq (Wq (qW 73 75 rfl (qG rfl ty26 rfl (Tl rfl) (qY rfl (hg) fok34 rfl (Nl (Wt rfl rfl (Wq (qW 79 86 rfl (qG rfl ty46 rfl (Tl rfl) (qY rfl (htk) fok53 rfl (qM rfl (qX rfl (qX rfl (qS rfl ty46 (Sl rfl) rfl (qA rfl (Nl (Wq (qW 90 92 rfl (qM rfl (qO rfl (Nl (Wo rfl rfl (Wu ?_)))))))))))))))))))))))
          dsimp only
          generalize hlv:lv - 1=lw
      all_goals
        repeat (refine W.seq ?_)
        refine qW 105 118 rfl (qM rfl (qM rfl (qM rfl (qG rfl ty26 rfl (Tl rfl) (qY rfl (hdl) fok54 rfl (qM rfl (qX rfl (qX rfl (qX rfl (qB rfl ty26 (qA rfl (qS rfl ty26 (Sl rfl) rfl (qA rfl (Nl ?_))))))))))))))
        cases d0
        ·
          have hw0:dw=0:=by simpa using hd0
          obtain ⟨⟨r',e'⟩,hdB⟩:=hfull hw0
          subst e'
          obtain ⟨x1,x2,sw2,x4,x5,x6,x7,x8⟩:=r'
          dsimp only [Option.getD_some,Option.isSome_some] at hru2 ⊢
          have hha:=hash_any [q0,q1,q2,q3,q4,q5] [e0,e1,e2,e3,e4,e5] rfl rfl hsB hdB
          have hway:=hwy sw sw2 (hashF ([q0,q1,q2,q3,q4,q5]++[e0,e1,e2,e3,e4,e5]))
          unfold wayV at hway
          generalize wayF f sw sw2 (hashF ([q0,q1,q2,q3,q4,q5]++[e0,e1,e2,e3,e4,e5]))=w at *
          repeat (refine W.seq ?_)
          refine qW 122 124 rfl (qM rfl (qN rfl (Nl (Wo rfl ‹_› (Wu ?_)))))
          repeat (refine W.seq ?_)
          refine qW 138 147 rfl (qM rfl (qM rfl (qY rfl (hru2) fok52 rfl (qM rfl (qX rfl (qX rfl (qB rfl ty39 (qS rfl ty39 (Sl rfl) rfl (qA rfl (Nl ?_))))))))))
          cases w with
          | none =>
            dsimp only [Option.getD_none,Option.isSome_none] at hway
            repeat (refine W.seq ?_)
            refine Wd 151 167 (by decide) rfl mixed rfl (qG rfl ty35 rfl (Tl rfl) (qF rfl ty39 rfl (qL rfl ty3 rfl (qF rfl ty39 rfl (qL rfl ty3 rfl (qF rfl ty26 rfl (qG rfl ty23 rfl (Tl rfl) (qF rfl ty26 rfl (qG rfl ty23 rfl (Tl rfl) (qY rfl (hha) fok45 rfl (qY rfl (hway) fok44 rfl (qM rfl (qX rfl (qX rfl (qA rfl (qA rfl (Nl ⟨by kernel_rfl,?_⟩)))))))))))))))))
            repeat (refine W.seq ?_)
            refine qW 171 177 rfl (qM rfl (qO rfl (qM rfl (qU rfl rfl rfl (Mv rfl rfl) (qU rfl rfl rfl (Nt rfl rfl) (qP rfl rfl rfl (Nl (Wt rfl rfl ?_))))))))
            repeat (refine W.seq ?_)
            refine Wd 181 186 (by decide) rfl mixed rfl (qG rfl ty49 rfl (Tl rfl) (qG rfl ty46 rfl (Tl rfl) (qS rfl ty49 (Sl rfl) rfl (qS rfl ty46 (Sl rfl) rfl (qA rfl (Nl ⟨by kernel_rfl,?_⟩))))))
            refine W.ret ⟨.inl rfl,_,mt,(RVs.cons (RV.cellA rfl rfl ty49 rfl (Tk.lit rfl)) (RVs.cons (RV.cellA rfl rfl ty46 rfl (Tk.lit rfl)) (RVs.cons (RV.tmp rfl) RVs.nil))),(by (repeat' (first|exact all_mt|refine all_up ?_ ?_))<;>rfl),?_⟩
            exact ⟨by rw [← hlv];rfl,rfl⟩
          | some lk =>
            dsimp only [Option.getD_some,Option.isSome_some] at hway
            repeat (refine W.seq ?_)
            refine Wd 151 167 (by decide) rfl mixed rfl (qG rfl ty35 rfl (Tl rfl) (qF rfl ty39 rfl (qL rfl ty3 rfl (qF rfl ty39 rfl (qL rfl ty3 rfl (qF rfl ty26 rfl (qG rfl ty23 rfl (Tl rfl) (qF rfl ty26 rfl (qG rfl ty23 rfl (Tl rfl) (qY rfl (hha) fok45 rfl (qY rfl (hway) fok44 rfl (qM rfl (qX rfl (qX rfl (qA rfl (qA rfl (Nl ⟨by kernel_rfl,?_⟩)))))))))))))))))
            repeat (refine W.seq ?_)
            refine qW 171 177 rfl (qM rfl (qO rfl (qM rfl (qU rfl rfl rfl (Mv rfl rfl) (qU rfl rfl rfl (Nt rfl rfl) (qP rfl rfl rfl (Nl (Wo rfl rfl (Wu ?_)))))))))
            repeat (refine W.seq ?_)
            refine Wd 190 198 (by decide) rfl mixed rfl (qM rfl (qM rfl (qG rfl ty26 rfl (Tl rfl) (Od rfl rfl (Bs rfl ty49 (.cons rfl rfl rfl rfl (Sl rfl) (.cons rfl rfl rfl rfl (Sl rfl) (.cons rfl rfl rfl rfl (Sl rfl) .nil)))) (qG rfl ty46 rfl (Tl rfl) (qS rfl ty49 (Sl rfl) rfl (qS rfl ty46 (Sl rfl) rfl (qA rfl (Nl ⟨by kernel_rfl,?_⟩)))))))))
            refine W.ret ⟨.inl rfl,_,mt,(RVs.cons (RV.cellA rfl rfl ty49 rfl (Tk.lit rfl)) (RVs.cons (RV.cellA rfl rfl ty46 rfl (Tk.lit rfl)) (RVs.cons (RV.tmp rfl) RVs.nil))),(by (repeat' (first|exact all_mt|refine all_up ?_ ?_))<;>rfl),?_⟩
            exact ⟨by rw [← hlv];rfl,rfl⟩
        ·
          repeat (refine W.seq ?_)
          refine qW 122 124 rfl (qM rfl (qN rfl (Nl (Wt rfl ‹_› ?_))))
          repeat (refine W.seq ?_)
          refine Wd 128 134 (by decide) rfl mixed rfl (qG rfl ty49 rfl (Tl rfl) (qG rfl ty46 rfl (Tl rfl) (qM rfl (qS rfl ty49 (Sl rfl) rfl (qS rfl ty46 (Sl rfl) rfl (qA rfl (Nl ⟨by kernel_rfl,?_⟩)))))))
          refine W.ret ⟨.inl rfl,_,mt,(RVs.cons (RV.cellA rfl rfl ty49 rfl (Tk.lit rfl)) (RVs.cons (RV.cellA rfl rfl ty46 rfl (Tk.lit rfl)) (RVs.cons (RV.tmp rfl) RVs.nil))),(by (repeat' (first|exact all_mt|refine all_up ?_ ?_))<;>rfl),?_⟩
          exact ⟨by rw [← hlv];rfl,rfl⟩
end Go.Proofs.YtlcndmciognneaaGreatDoor
namespace Go.Proofs.YtlcndmciognneaaGreatDoor
open Go.RowKit
theorem DbFine.full {l:List Int} {d:Db} (h:DbFine l d) {g:Int→Int} {bs:List Bd} (hp:List.Perm bs (bdsOf (allP d))) (p:Int) (x:Fr):Full ((allP d).map (ruleOf g 2 3)) bs p x:=by
  intro h0
  unfold dlvF at h0 ⊢
  split at h0
  · cases h0
  · rename_i hc
    rw [if_neg hc]
    have hok:(tgtF ((allP d).map (ruleOf g 2 3)) bs x).2.2=true:=by
      cases ho:(tgtF ((allP d).map (ruleOf g 2 3)) bs x).2.2
      · exact absurd (.inl ho) hc
      · rfl
    obtain ⟨q,hq,e1,e2,_⟩:=h.reach hp hok
    have hl:=h.len
    refine ⟨⟨ruleOf g 2 3 q,?_⟩,?_⟩
    · dsimp only
      rw [e1]
      exact rule_first hq fun y hy e=>h.ids hq hy e
    · dsimp only
      obtain ⟨i,hi,rfl⟩:=List.getElem_of_mem hq
      have hpo:=(h.good i hi).ok (by omega) (by omega)
      exact (hpo.macs _ e2).2.1
set_option maxHeartbeats 4000000 in
theorem setting14_any (l:List Int) (at_:Nat) (hl:l.length≤9223372036854775807) :
    ∃ v H',AFn Tryz.prog 15 1 [.own 0 0] (up mt 0 (some (deckC l at_))) v H' ∧
      ∃ (ld:List Int) (d:Db) (g:Int→Int) (bs:List Bd) (j:Nat) (f:Fr) (fb:Fab) (at':Nat) (hj:j < (allP d).length),(DbFine ld d∧List.Perm bs (bdsOf (allP d))∧MacOk bs∧FrY f∧FabOK fb) ∧
        v=.tup [.isl (rulesC ((allP d).map (ruleOf g 2 3))) ((allP d).map (ruleOf g 2 3)).length,.isl (bdsC bs) bs.length,.agg (fabC fb),.agg (ruleC (ruleOf g 2 3 (allP d)[j])),.agg (frC f)]∧H'=up mt 0 (some (deckC l at')):=by
  refine AFn.ex Tryz.func15 rfl rfl (Nat.le_of_ble_eq_true rfl) ?_
  obtain ⟨vd,Hd,hdb,d,a1,hmade,rfl,rfl⟩:=database_any l at_ hl
  have hfine:=hmade.fine
  have hlen:=hfine.len
  obtain ⟨g,hru⟩:=rules_any d hfine.ok hfine.once hfine.ports (by omega) 2 3 (by decide)
  obtain ⟨_,_,hfab,fb,a2,⟨hfok,_⟩,rfl,rfl⟩:=fabric_any l a1 4 (by decide) (by decide) hl
  obtain ⟨vb,Hb,hbi,bs,⟨hperm,hmo⟩,rfl,rfl⟩:=bindings_any d hfine.ok hfine.ports (by omega) (fun p hp=>by
    obtain ⟨i,hi,rfl⟩:=List.getElem_of_mem hp
    exact (hfine.good i hi).ok (by omega) (by omega))
  have hrl:((allP d).map (ruleOf g 2 3)).length=(allP d).length:=List.length_map _
  obtain ⟨j,hj,hjb⟩:=nat_of (nextV_bd l a2 (((allP d).map (ruleOf g 2 3)).length:Int) (by omega))
  have n4:=next_any l a2 (((allP d).map (ruleOf g 2 3)).length:Int) (by omega) (by omega) hl
  rw [hj] at n4
  have hj2:j < (allP d).length:=by omega
  have tJ:=rules_tk (l:=(allP d).map (ruleOf g 2 3)) (k:=j) (by omega)
  rw [List.getElem_map] at tJ
  have hrok:=hfine.rok g 2 3
  have hone:RlOk (ruleOf g 2 3 (allP d)[j]):=hrok _ (List.mem_map.2 ⟨_,List.getElem_mem hj2,rfl⟩)
  obtain ⟨_,_,hfr,f,a3,hfx,rfl,rfl⟩:=frame_any l (nextAt l a2) (ruleOf g 2 3 (allP d)[j]) ((allP d).map (ruleOf g 2 3)) hone hrok (by omega) (by omega) hl
  have p6:=hfx.ok.d6
  have q6:=hfx.ok.s6
  have hex : ∃ (ld : List Int) (dd : Db) (gg : Int → Int) (bb : List Bd) (i : Nat) (ff : Fr) (fbb : Fab) (aa : Nat) (hi : i < (allP dd).length), (DbFine ld dd ∧ List.Perm bb (bdsOf (allP dd)) ∧ MacOk bb ∧ FrY ff ∧ FabOK fbb) ∧
        AV.tup [.isl (rulesC ((allP d).map (ruleOf g 2 3))) ((allP d).map (ruleOf g 2 3)).length,.isl (bdsC bs) bs.length,.agg (fabC fb),.agg (ruleC (ruleOf g 2 3 (allP d)[j])),.agg (frC f)]=.tup [.isl (rulesC ((allP dd).map (ruleOf gg 2 3))) ((allP dd).map (ruleOf gg 2 3)).length,.isl (bdsC bb) bb.length,.agg (fabC fbb),.agg (ruleC (ruleOf gg 2 3 (allP dd)[i])),.agg (frC ff)]∧(up mt 0 (some (deckC l a3)):Hp)=up mt 0 (some (deckC l aa)) :=
    ⟨_,d,g,bs,j,f,fb,a3,hj2,⟨hfine,hperm,hmo,hfx,hfok⟩,rfl,rfl⟩
  obtain ⟨fd,fs,fv,ft,fx⟩:=f
  dsimp only at p6 q6
  obtain ⟨p0,p1,p2,p3,p4,p5,rfl⟩:=six_of p6
  obtain ⟨q0,q1,q2,q3,q4,q5,rfl⟩:=six_of q6
  generalize (allP d)[j]=P at *
  generalize hgr:(allP d).map (ruleOf g 2 3)=rs at *
  have hj3:j < rs.length:=by omega
  obtain ⟨sw,lks,dns,dds⟩:=fb
  clear hfine hmade hrok hone hj hfok
  refine Wq (qW 1 6 rfl (qA rfl (qA rfl (qB rfl ty35 (qB rfl ty39 (qB rfl ty26 (Nl (Wq (qW 10 14 rfl (qM rfl (Od rfl rfl (C1 (fr:=[]) rfl rfl (hdb) fok46 (.own rfl rfl .nil) rfl rfl rfl (Cn _ _) (by decide) rfl) (qB rfl ty105 (qS rfl ty105 (Sl rfl) rfl (Nl (Wq (qW 18 25 rfl (qG rfl ty105 rfl (Tl rfl) (qY rfl (hru) fok47 rfl (qM rfl (qX rfl (qX rfl (qA rfl (qA rfl (Nl (Wq (qW 29 33 rfl (qM rfl (Od rfl rfl (C1 (fr:=[]) rfl rfl (hfab) fok48 (.own rfl rfl (.cons rfl (.pure rfl) .nil)) rfl rfl rfl (Cn _ _) (by decide) rfl) (qB rfl ty35 (qS rfl ty35 (Sl rfl) rfl (Nl (Wq (qW 37 46 rfl (qM rfl (qM rfl (qM rfl (qH rfl ty30 (Od rfl rfl (C1 (fr:=[]) rfl rfl (n4) fok49 (.own rfl rfl (.cons rfl (.pure rfl) .nil)) rfl rfl rfl (Cn _ _) (by decide) rfl) (qJ rfl rfl ty30 ty39 (by omega) (Od rfl rfl (Lg rfl rfl ty39 rfl tJ) (qB rfl ty39 (qS rfl ty39 (Sl rfl) rfl (Nl (Wq (Wd 50 64 (by decide) rfl mixed rfl (qM rfl (qG rfl ty105 rfl (Tl rfl) (qY rfl (hbi) fok50 rfl (qG rfl ty35 rfl (Tl rfl) (qG rfl ty39 rfl (Tl rfl) (qM rfl (qG rfl ty39 rfl (Tl rfl) (qM rfl (Od rfl rfl (C1 (fr:=[]) rfl rfl (hfr) fok51 (.own rfl rfl (.cons rfl (.pure rfl) (.cons rfl (.pure rfl) .nil))) rfl rfl rfl (Cn _ _) (by decide) rfl) (qA rfl (qA rfl (qS rfl ty35 (Sl rfl) rfl (qS rfl ty39 (Sl rfl) rfl (qS rfl ty26 (Sl rfl) rfl (Nl ⟨by kernel_rfl,?_⟩))))))))))))))))))))))))))))))))))))))))))))))))))))))))))))
  refine W.ret ⟨.inl rfl,_,up mt 0 (some (deckC l a3)),(RVs.cons (RV.tmp rfl) (RVs.cons (RV.tmp rfl) (RVs.cons (RV.cellA rfl rfl ty35 rfl (Tk.lit rfl)) (RVs.cons (RV.cellA rfl rfl ty39 rfl (Tk.lit rfl)) (RVs.cons (RV.cellA rfl rfl ty26 rfl (Tk.lit rfl)) RVs.nil))))),(by (repeat' (first|exact all_mt|refine all_up ?_ ?_))<;>rfl),?_⟩
  exact hex
theorem wayF_len1 {f:Fab} {a b h:Int} {w:List Int} (hf:FabS f) (hw:wayF f a b h=some w):w.length≤1000:=by
  have:=wayF_len hf a b h
  rw [hw] at this
  exact Nat.le_trans this (by decide)
end Go.Proofs.YtlcndmciognneaaGreatDoor
namespace Go.Proofs.YtlcndmciognneaaGreatDoor
open Go.RowKit
end Go.Proofs.YtlcndmciognneaaGreatDoor
namespace Go.Proofs.YtlcndmciognneaaGreatDoor
open Go.RowKit
theorem newB_any (r b:Int):AFn Tryz.prog 27 0 [.base (.int .i64 r),.base (.int .i64 b)] mt (.agg (bkC ⟨b,r,b⟩)) mt:=by
  refine AFn.eq Tryz.func27 rfl rfl (Nat.le_of_ble_eq_true rfl) (Wq (qW 0 1 rfl (qB rfl ty46 (Nl (Wq (qW 5 10 rfl (qM rfl (qM rfl (qM rfl (Od rfl rfl (Bs rfl ty46 (.cons rfl rfl rfl rfl (Sl rfl) (.cons rfl rfl rfl rfl (Sl rfl) (.cons rfl rfl rfl rfl (Sl rfl) .nil)))) (qS rfl ty46 (Sl rfl) rfl (Nl ?_))))))))))))
  refine W.ret ⟨.inl rfl,_,mt,(RVs.cons (RV.cellA rfl rfl ty46 rfl (Tk.lit rfl)) RVs.nil),(by (repeat' (first|exact all_mt|refine all_up ?_ ?_))<;>rfl),?_⟩
  exact ⟨rfl,rfl⟩
end Go.Proofs.YtlcndmciognneaaGreatDoor
namespace Go.Proofs.YtlcndmciognneaaGreatDoor
open Go.RowKit
theorem zFr_ok:FrOk zFr:=⟨rfl,rfl,fun x hx=>by simp [zFr] at hx,by simp [zFr]⟩
theorem fwdF_ok {rs:List Rl} {bs:List Bd} {f:Fab} {bk:Bk} {p:Int} {x:Fr} (ht:TablesOk rs bs) (hf:FabS f) (hx:FrX x):FrOk (fwdF rs bs f bk p x).1.fr∧(fwdF rs bs f bk p x).1.links.length≤1000:=by
  have h1:FrOk (dlvF rs bs p x).2.1:=dlvF_okX ht hx
  have h2:=fun w=>@wayF_len1 f (ruleD rs p).sw (ruleD rs (dlvF rs bs p x).1).sw (hashF (x.src++(dlvF rs bs p x).2.1.dst)) w hf
  unfold fwdF fwdB fwdW
  have hz:FrOk zDl.fr∧zDl.links.length≤1000:=⟨zFr_ok,by simp [zDl]⟩
  split
  · exact hz
  · split
    · exact hz
    · split
      · exact hz
      · split
        · exact hz
        · split
          · exact hz
          · rename_i w hw
            exact ⟨h1,h2 w hw⟩
theorem shortS_any (l:List Int):AFn Tryz.prog 13 0 [.isl (bytesC l) l.length] mt (.base (.bool (decide ((l.length:Int)≤600)))) mt:=by
  refine AFn.eq Tryz.func13 rfl rfl (Nat.le_of_ble_eq_true rfl) (Wq (qW 0 1 rfl (qA rfl (Nl (Wq (qW 5 9 rfl (qM rfl (qH rfl ty24 (Od rfl rfl (Le0 rfl rfl rfl) (qA rfl (Nl (Wz ⟨.inl rfl,_,mt,Rc (Rt rfl) (Rv),aM,?_⟩))))))))))))
  exact ⟨rfl,rfl⟩
end Go.Proofs.YtlcndmciognneaaGreatDoor
