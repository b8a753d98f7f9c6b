/-
  Prefixes and ports from a list of numbers. From 'the walk returns true and leaves what lay there as it was' to a statement's row; the arguments that come in, as the abstract machine sees them. Lists of numbers, as they come in.
-/
import Derived.Test.YthbegdeojkdlbaaDk
import Derived.Test.YthbegdeojkdlbaaMab
import Derived.Test.YthbegdeojkdlbaaRows
import Derived.ProofKit
namespace Go.Proofs.Ythbegdeojkdlbaa
open Go.RowKit
theorem nextV_bd (l:List Int) (at_:Nat) (n:Int) (hn:1≤n):0≤nextV l at_ n∧nextV l at_ n < n:=by
 unfold nextV
 split
 ·exact ⟨Int.emod_nonneg _ (by omega),Int.emod_lt_of_pos _ (by omega)⟩
 ·exact ⟨by omega,by omega⟩
def intsC (l:List Int):List AV:=l.map fun z=>.base (.int .i64 z)
theorem intsC_len (l:List Int):(intsC l).length=l.length:=by simp [intsC]
theorem intsC_app (a b:List Int):intsC (a++b)=intsC a++intsC b:=by simp [intsC]
theorem intsC_pure (l:List Int):(intsC l).all AV.pure1=true:=by simp [intsC,List.all_eq_true,AV.pure1]
theorem ints_tk {l:List Int} {n:Nat} (h:l.length=n):Tk (intsC l) 0 (n * 1) (intsC l):=by
 have:=Tk.all (intsC l)
 rwa [show (intsC l).length=n * 1 from by simp [intsC,h]] at this
structure Pf where
 v6:Bool
 hi:Int
 lo:Int
 len:Int
def pfC (p:Pf):List AV:=[.base (.bool p.v6),.base (.int .u64 p.hi),.base (.int .u64 p.lo),.base (.int .i64 p.len)]
structure Ad where
 v6:Bool
 hi:Int
 lo:Int
def adC (a:Ad):List AV:=[.base (.bool a.v6),.base (.int .u64 a.hi),.base (.int .u64 a.lo)]
set_option maxHeartbeats 1000000 in
theorem block_any (k:Int):∃ v H',AFn Try.prog 28 0 [.base (.int .i64 k)] mt v H'∧∃ p:Pf,v=.agg (pfC p)∧H'=mt:=by
 refine AFn.ex Try.func28 rfl rfl (Nat.le_of_ble_eq_true rfl) ?_
 cases hb:decide (k ≥ 6)
 ·
  refine Wq<|qW 0 1 rfl<|qB rfl ty46<|Nl<|Wq<|Wq<|qW 5 7 rfl<|qM rfl<|qGe rfl<|Nl<|Wo rfl ‹_›<|Wu<|Wq<|qW 22 29 rfl<|qM rfl<|Od rfl rfl (LO.conv rfl rfl ty3 ty42)<|Od rfl rfl (LO.shl rfl rfl rfl (by omega))<|Od rfl rfl (LO.or rfl rfl rfl)<|Od rfl rfl (Bs rfl ty44 (.cons rfl rfl rfl rfl (Sl rfl) .nil))<|Od rfl rfl (Bs rfl ty46 (.cons rfl rfl rfl rfl (Sl rfl) (.cons rfl rfl rfl rfl (Sl rfl) .nil)))<|qS rfl ty46 (Sl rfl) rfl<|Nl<|Wz ⟨.inl rfl,_,mt,(Rc (Ra0 rfl rfl ty46 rfl (Tl rfl)) Rv),aM,?_⟩
  exact ⟨⟨_,_,_,_⟩,rfl,rfl⟩
 ·
  refine Wq<|qW 0 1 rfl<|qB rfl ty46<|Nl<|Wq<|Wq<|qW 5 7 rfl<|qM rfl<|qGe rfl<|Nl<|Wt rfl ‹_›<|Wq<|qW 11 18 rfl<|qM rfl<|Od rfl rfl (LO.conv rfl rfl ty3 ty42)<|Od rfl rfl (LO.shl rfl rfl rfl (by omega))<|Od rfl rfl (LO.or rfl rfl rfl)<|Od rfl rfl (Bs rfl ty44 (.cons rfl rfl rfl rfl (Sl rfl) (.cons rfl rfl rfl rfl (Sl rfl) .nil)))<|Od rfl rfl (Bs rfl ty46 (.cons rfl rfl rfl rfl (Sl rfl) (.cons rfl rfl rfl rfl (Sl rfl) .nil)))<|qS rfl ty46 (Sl rfl) rfl<|Nl<|Wz ⟨.inl rfl,_,mt,(Rc (Ra0 rfl rfl ty46 rfl (Tl rfl)) Rv),aM,?_⟩
  exact ⟨⟨_,_,_,_⟩,rfl,rfl⟩
theorem port_any (k:Int) (b:Bool):∃ v H',AFn Try.prog 30 0 [.base (.int .i64 k),.base (.bool b)] mt v H'∧∃ p:Ad,v=.agg (adC p)∧H'=mt:=by
 refine AFn.ex Try.func30 rfl rfl (Nat.le_of_ble_eq_true rfl) ?_
 cases b
 ·
  refine Wq<|qW 0 1 rfl<|qB rfl ty44<|Nl<|Wq<|Wq<|qW 5 6 rfl<|qM rfl<|Nl<|Wo rfl (rfl)<|Wu<|Wq<|qW 18 25 rfl<|qM rfl<|Od rfl rfl (LO.rem rfl rfl rfl (by omega))<|Od rfl rfl (LO.add rfl rfl rfl)<|Od rfl rfl (LO.conv rfl rfl ty3 ty42)<|Od rfl rfl (LO.or rfl rfl rfl)<|Od rfl rfl (Bs rfl ty44 (.cons rfl rfl rfl rfl (Sl rfl) .nil))<|qS rfl ty44 (Sl rfl) rfl<|Nl<|Wz ⟨.inl rfl,_,mt,(Rc (Ra0 rfl rfl ty44 rfl (Tl rfl)) Rv),aM,?_⟩
  exact ⟨⟨_,_,_⟩,rfl,rfl⟩
 ·
  refine Wq<|qW 0 1 rfl<|qB rfl ty44<|Nl<|Wq<|Wq<|qW 5 6 rfl<|qM rfl<|Nl<|Wt rfl (rfl)<|Wq<|qW 10 14 rfl<|qM rfl<|Od rfl rfl (LO.conv rfl rfl ty3 ty42)<|Od rfl rfl (Bs rfl ty44 (.cons rfl rfl rfl rfl (Sl rfl) (.cons rfl rfl rfl rfl (Sl rfl) (.cons rfl rfl rfl rfl (Sl rfl) .nil))))<|qS rfl ty44 (Sl rfl) rfl<|Nl<|Wz ⟨.inl rfl,_,mt,(Rc (Ra0 rfl rfl ty44 rfl (Tl rfl)) Rv),aM,?_⟩
  exact ⟨⟨_,_,_⟩,rfl,rfl⟩
set_option maxHeartbeats 1000000 in
theorem prefix_any (l:List Int) (at_:Nat) (hl:l.length≤9223372036854775807) :
 ∃ v H',AFn Try.prog 20 1 [.own 0 0] (up mt 0 (some (deckC l at_))) v H'∧∃ (p:Pf) (at':Nat),v=.agg (pfC p)∧H'=up mt 0 (some (deckC l at')):=by
 refine AFn.ex Try.func20 rfl rfl (Nat.le_of_ble_eq_true rfl) ?_
 obtain ⟨_,_,hbk,p,rfl,rfl⟩:=block_any (nextV l at_ 8)
 obtain ⟨pv,ph,pl,pn⟩:=p
 obtain ⟨a1,ha1⟩:∃ a1,nextAt l at_=a1:=⟨_,rfl⟩
 have n1:=next_any l at_ 8 (by decide) (by decide) hl
 obtain ⟨e1,he1⟩:∃ e1,nextV l at_ 8=e1:=⟨_,rfl⟩
 rw [he1] at hbk
 rw [he1,ha1] at n1
 obtain ⟨e2,he2⟩:∃ e2,nextV l a1 8=e2:=⟨_,rfl⟩
 obtain ⟨a2,ha2⟩:∃ a2,nextAt l a1=a2:=⟨_,rfl⟩
 have n2:=next_any l a1 8 (by decide) (by decide) hl
 rw [he2,ha2] at n2
 obtain ⟨e3,he3⟩:∃ e3,nextV l a2 3=e3:=⟨_,rfl⟩
 obtain ⟨a3,ha3⟩:∃ a3,nextAt l a2=a3:=⟨_,rfl⟩
 have n3:=next_any l a2 3 (by decide) (by decide) hl
 rw [he3,ha3] at n3
 have b3:=nextV_bd l a2 3 (by decide)
 rw [he3] at b3
 unfold pfC at hbk
 refine Wq<|qW 1 2 rfl<|qB rfl ty46<|Nl<|Wq<|qW 6 11 rfl<|qM rfl<|Od rfl rfl (C1 (fr:=[]) rfl rfl (n1) fok13 (.own rfl rfl (.cons rfl (.pure rfl) .nil)) rfl rfl rfl (Cn _ _) (by decide) rfl)<|qY rfl (hbk) fok28 rfl<|qB rfl ty46<|qS rfl ty46 (Sl rfl) rfl<|Nl<|Wq<|Wq<|qW 15 17 rfl<|qM rfl<|Od rfl rfl (C1 (fr:=[]) rfl rfl (n2) fok13 (.own rfl rfl (.cons rfl (.pure rfl) .nil)) rfl rfl rfl (Cn _ _) (by decide) rfl)<|Nl<|W.joinK (α:=Pf × Nat) 3 (fun x=>[(0,.own 0 0),(2,.own 1 0),(3,.own 2 0)]) (fun x=>up (up (up mt 0 (some (deckC l x.2))) 1 (some (pfC ⟨false,0,0,0⟩))) 2 (some (pfC x.1))) (fun x=>True) .nil ?_ ?_
 rotate_left
 rintro ⟨p,a⟩ hIJ
 try (dsimp only at hIJ)
 try dsimp only [joinT,baseT,List.cons_append,List.nil_append]
 rotate_right
 ·
  refine Wb ?_
  rcases (show (e2 == 6)=true∨((e2 == 6)=false∧(e2 == 7)=true)∨((e2 == 6)=false∧(e2 == 7)=false) by cases (e2 == 6)<;>cases (e2 == 7)<;>simp) with g1|⟨g1,g2⟩|⟨g1,g2⟩
  ·
   refine Wq<|qW 21 23 rfl<|qE rfl<|qA rfl<|Nl<|Wt rfl ‹_›<|Wq<|qW 27 30 rfl<|qF rfl ty46 rfl<|qF rfl ty44 rfl<|qL rfl ty4 rfl<|Nl ?_
   cases pv
   ·
    refine Wo rfl (rfl)<|qW 40 42 rfl<|qF rfl ty46 rfl<|qS rfl ty3 (Sl rfl) rfl<|Nl ?_
    intro yJ KJ hJ
    refine W.renameJ [(0,0),(1,1),(2,9)] 3 (by decide) ?_ ?_ (hJ (((⟨false,ph,pl,24⟩:Pf)),a2) (show True from trivial))
    ·exact lC (lI rfl) (lC (lI rfl) (lC (lI rfl) lN))
    ·exact aU (kR rfl) (aU (kR rfl) (aU (kR rfl) aM))
   ·
    refine Wt rfl (rfl)<|qW 34 36 rfl<|qF rfl ty46 rfl<|qS rfl ty3 (Sl rfl) rfl<|Nl ?_
    intro yJ KJ hJ
    refine W.renameJ [(0,0),(1,1),(2,9)] 3 (by decide) ?_ ?_ (hJ (((⟨true,ph,pl,64⟩:Pf)),a2) (show True from trivial))
    ·exact lC (lI rfl) (lC (lI rfl) (lC (lI rfl) lN))
    ·exact aU (kR rfl) (aU (kR rfl) (aU (kR rfl) aM))
  ·
   refine Wq<|qW 21 23 rfl<|qE rfl<|qA rfl<|Nl<|Wo rfl ‹_›<|Wq<|qW 46 48 rfl<|qE rfl<|qA rfl<|Nl<|Wt rfl ‹_›<|Wq<|Wq<|qW 52 55 rfl<|qF rfl ty46 rfl<|qF rfl ty44 rfl<|qL rfl ty4 rfl<|Nl ?_
   cases pv
   ·
    refine Wo rfl (rfl)<|qW 65 67 rfl<|qF rfl ty46 rfl<|qS rfl ty3 (Sl rfl) rfl<|Nl<|Wd 71 81 (by decide) rfl mixed rfl<|qF rfl ty46 rfl<|qF rfl ty44 rfl<|qL rfl ty42 rfl<|qM rfl<|Od rfl rfl (C1 (fr:=[]) rfl rfl (n3) fok13 (.own rfl rfl (.cons rfl (.pure rfl) .nil)) rfl rfl rfl (Cn _ _) (by decide) rfl)<|Od rfl rfl (Ci rfl rfl ty3 ty42 (IntWalk.u64_in _ (by omega)))<|Od rfl rfl (LO.add rfl rfl rfl)<|qF rfl ty46 rfl<|qF rfl ty44 rfl<|qS rfl ty42 (Sl rfl) rfl<|Nl ⟨by kernel_rfl,?_⟩
    intro yJ KJ hJ
    refine W.renameJ [(0,0),(1,1),(2,9)] 3 (by decide) ?_ ?_ (hJ (((⟨false,ph,IntKind.u64.wrap (pl + e3),32⟩:Pf)),a3) (show True from trivial))
    ·exact lC (lI rfl) (lC (lI rfl) (lC (lI rfl) lN))
    ·exact aU (kR rfl) (aU (kR rfl) (aU (kR rfl) aM))
   ·
    refine Wt rfl (rfl)<|qW 59 61 rfl<|qF rfl ty46 rfl<|qS rfl ty3 (Sl rfl) rfl<|Nl<|Wd 71 81 (by decide) rfl mixed rfl<|qF rfl ty46 rfl<|qF rfl ty44 rfl<|qL rfl ty42 rfl<|qM rfl<|Od rfl rfl (C1 (fr:=[]) rfl rfl (n3) fok13 (.own rfl rfl (.cons rfl (.pure rfl) .nil)) rfl rfl rfl (Cn _ _) (by decide) rfl)<|Od rfl rfl (Ci rfl rfl ty3 ty42 (IntWalk.u64_in _ (by omega)))<|Od rfl rfl (LO.add rfl rfl rfl)<|qF rfl ty46 rfl<|qF rfl ty44 rfl<|qS rfl ty42 (Sl rfl) rfl<|Nl ⟨by kernel_rfl,?_⟩
    intro yJ KJ hJ
    refine W.renameJ [(0,0),(1,1),(2,9)] 3 (by decide) ?_ ?_ (hJ (((⟨true,ph,IntKind.u64.wrap (pl + e3),128⟩:Pf)),a3) (show True from trivial))
    ·exact lC (lI rfl) (lC (lI rfl) (lC (lI rfl) lN))
    ·exact aU (kR rfl) (aU (kR rfl) (aU (kR rfl) aM))
  ·
   refine Wq<|qW 21 23 rfl<|qE rfl<|qA rfl<|Nl<|Wo rfl ‹_›<|Wq<|qW 46 48 rfl<|qE rfl<|qA rfl<|Nl<|Wo rfl ‹_›<|Wu ?_
   intro yJ KJ hJ
   refine W.renameJ [(0,0),(1,1),(2,9)] 3 (by decide) ?_ ?_ (hJ (((⟨pv,ph,pl,pn⟩:Pf)),a2) (show True from trivial))
   ·exact lC (lI rfl) (lC (lI rfl) (lC (lI rfl) lN))
   ·exact aU (kR rfl) (aU (kR rfl) (aU (kR rfl) aM))
 refine Wq<|qW 85 87 rfl<|qG rfl ty46 rfl (Tl rfl)<|qS rfl ty46 (Sl rfl) rfl<|Nl<|Wz ⟨.inl rfl,_,(up mt 0 (some (deckC l a))),(Rc (Ra0 rfl rfl ty46 rfl (Tl rfl)) Rv),(aU rfl aM),?_⟩
 exact ⟨p,a,rfl,rfl⟩
open Go.ChangeShapes Go.WideShapes Go.ChangeAt Go.RowKit
theorem Try.own:ownKnob Try.prog.godebug=none:=by kernel_rfl
theorem Try.laidOut:laidOutB Try.prog=true:=by kernel_rfl
theorem trodAll_stays {H:Type} {enc:TypeId × Value→H} {P:Program} (hl:laidOutB P=true) {W W':World} {sp':Nat→Bool} :
 ∀ {ts:List TypeId} {vs:List Value} {ds:List (DataW H)} {ps:List MemPlace},(∀ t∈ts,P.readableRec t=true∧t < P.types.size) →
  DataW.TrodAll enc P W 0 (fun _=>true) true ts vs ds ps→(∀ p∈ps,W.sameAt W' p)→(∀ p∈ps,sp' p.block=true)→DataW.TrodAll enc P W' 0 sp' true ts vs ds ps
 | [],[],[],_,_,h,_,_=>h
 | _::_,_::_,_::_,_,hT,⟨p,q,h1,h2,e⟩,hsame,hs =>
  ⟨p,q,WideElems.Trod_stays hl (hT _ (List.mem_cons.2 (Or.inl rfl))).1 (hT _ (List.mem_cons.2 (Or.inl rfl))).2 h1 (fun x hx=>hsame x (by rw [e];exact List.mem_append_left _ hx)) (fun x hx=>hs x (by rw [e];exact List.mem_append_left _ hx)),
   trodAll_stays hl (fun t ht=>hT t (List.mem_cons.2 (Or.inr ht))) h2 (fun x hx=>hsame x (by rw [e];exact List.mem_append_right _ hx)) (fun x hx=>hs x (by rw [e];exact List.mem_append_right _ hx)),e⟩
theorem law_post {H:Type} {enc:TypeId × Value→H} {P:Program} {f:Func} {s:ChangeSpec} {fresh handsOn again:Bool} {W W':World} {args:Array Value} {ds gs:List (DataW H)} {before:List MemPlace}
 (hl:laidOutB P=true) (hT:∀ t∈f.params.toList,P.readableRec t=true∧t < P.types.size) (tb:TypeId) (hb1:f.resultTypes=#[tb]) (hb2:P.underlying tb=some .bool) (hv:s.vars=[])
 (hW:DataW.Whole enc P f.params.toList s.vars false W args.toList ds gs before)
 (hs:(s.fn H (ds++gs)).results=[.lit (.bool true)]∧(s.fn H (ds++gs)).args=ds∧(s.fn H (ds++gs)).vars=[]) (hb:Below W.heap.size W W') :
 s.post enc P f false fresh handsOn again W args (.bool true) W':=by
 have hlt:∀ p∈before,p.block < W.heap.size:=fun p hp=>hW.lt p hp
 have hW0:=hW
 obtain ⟨p,q,hA,hV,rfl,hz,hn⟩:=hW
 rw [hv] at hV
 obtain ⟨rfl,rfl⟩:=trodVars_none hV
 have hsame:∀ x∈p,W.sameAt W' x:=fun x hx=>hb.same (hlt x (List.mem_append_left _ hx))
 have hres:∀ (b:Nat) (sp:Nat→Bool) (hd:Bool),DataW.TrodAll enc P W' b sp hd f.resultTypes.toList ((Value.bool true).resultList f.resultTypes.size) (s.fn H (ds++[])).results []:=by
  intro b sp hd
  rw [hb1,hs.1]
  exact trodAll_mk1 (shut_bool hb2 true)
 have hargs:∀ sp:Nat→Bool,(∀ x∈p++[],sp x.block=true)→DataW.TrodAll enc P W' 0 sp true f.params.toList args.toList (s.fn H (ds++[])).args p:=by
  intro sp hsp
  rw [hs.2.1]
  exact trodAll_stays hl hT hA hsame (fun x hx=>hsp x (List.mem_append_left _ hx))
 have hold:∀ x∈p++[],(fun b=>decide (b < W.heap.size)) x.block=true:=fun x hx=>by simpa using hlt x hx
 have hvs:∀ sp:Nat→Bool,DataW.TrodVars enc P W' sp s.vars (s.fn H (ds++[])).vars []:=by
  intro sp
  rw [hv,hs.2.2]
  simp [DataW.TrodVars]
 refine ⟨ds,[],p++[],[],p,[],hW0,hres _ _ _,hargs _ hold,hvs _,World.keptBut_mono (fun x hx=>⟨hx,?_⟩) (hb.frame (·∈p++[])),fun _=>?_⟩
 ·rw [List.mem_append] at hx
  exact Or.inr hx
 ·refine ⟨ok_one hb1 rfl (okWide_bool_mk hb2 true),_,_,([]++p)++[],⟨[]++p,[],trodAll_append (hargs _ (fun _ _=>rfl)) (hres _ _ _),hvs _,rfl,?_,?_⟩,?_⟩
  ·intro b off hp
   have hin:MemPlace.cell b off∈p++[]:=by simpa using hp
   rw [hb.frozen (hlt _ hin)]
   exact hz b off hin
  ·intro ha;cases ha
  ·intro x hx _
   simpa using hx
end Go.Proofs.Ythbegdeojkdlbaa
namespace Go.Proofs.Ythbegdeojkdlbaa
open Go.ChangeShapes Go.WideShapes Go.ChangeAt Go.RowKit
section
variable {H:Type} {enc:TypeId × Value→H}
theorem opInt:Opens enc Try.prog 3 (fun (z:Int)=>[.base (.int .i64 z)]) (fun z=>(Lit.int .i64 z).wf=true):=.int Try.underlying3
theorem opInts:Opens enc Try.prog 22 (fun (l:List Int)=>[.isl (intsC l) l.length]) (fun l=>l.length≤9223372036854775807) :=
 (Opens.slice (n:=1) Try.underlying22 opInt (by kernel_rfl) (by decide) (fun _ _=>rfl)).map id (fun l _=>by unfold intsC;rw [List.map_eq_flatMap];rfl) (fun l h=>by have:=h.1;unfold maxLen at this;simp only [id];omega)
end
end Go.Proofs.Ythbegdeojkdlbaa
