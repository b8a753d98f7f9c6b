/-
  The types of the program. The list of numbers that everything is made from: the next number, a new list. From 'the walk returns true and leaves what lay there as it was' to a statement's row; the arguments that come in, as the abstract machine sees them.
-/
import Derived.Test.YtneidpjkboaejaaMab
import Derived.KernelRfl
import Derived.Test.YtneidpjkboaejaaRows
import Derived.ProofKit
namespace Go.Proofs.Ytneidpjkboaejaa
open Go.RowKit
theorem ty3:TyOK Try.prog 3 (.int .i64) 1 8 [.base (.int .i64 0)]:=by unfold TyOK;kernel_rfl
theorem ty4:TyOK Try.prog 4 (.bool) 1 1 [.base (.bool false)]:=by unfold TyOK;kernel_rfl
theorem ty22:TyOK Try.prog 22 (.sl 38) 1 24 [.nils]:=by unfold TyOK;kernel_rfl
theorem ty23:TyOK Try.prog 23 (.sl 4) 1 24 [.nils]:=by unfold TyOK;kernel_rfl
theorem ty25:TyOK Try.prog 25 (.st [(0,1,3),(1,1,22),(2,1,23),(3,1,23)]) 4 80 [.base (.int .i64 0),.nils,.nils,.nils]:=by unfold TyOK;kernel_rfl
theorem ty26:TyOK Try.prog 26 (.sl 3) 1 24 [.nils]:=by unfold TyOK;kernel_rfl
theorem ty32:TyOK Try.prog 32 (.sl 25) 1 24 [.nils]:=by unfold TyOK;kernel_rfl
theorem ty38:TyOK Try.prog 38 (.st [(0,1,3),(1,1,3),(2,1,3)]) 3 24 [.base (.int .i64 0),.base (.int .i64 0),.base (.int .i64 0)]:=by unfold TyOK;kernel_rfl
theorem ty42:TyOK Try.prog 42 (.st [(0,1,26),(1,1,3)]) 2 32 [.nils,.base (.int .i64 0)]:=by unfold TyOK;kernel_rfl
theorem ty46:TyOK Try.prog 46 (.arr 8 3) 8 64 [.base (.int .i64 0),.base (.int .i64 0),.base (.int .i64 0),.base (.int .i64 0),.base (.int .i64 0),.base (.int .i64 0),.base (.int .i64 0),.base (.int .i64 0)]:=by unfold TyOK;kernel_rfl
theorem ty48:TyOK Try.prog 48 (.arr 8 46) 64 512 [.base (.int .i64 0),.base (.int .i64 0),.base (.int .i64 0),.base (.int .i64 0),.base (.int .i64 0),.base (.int .i64 0),.base (.int .i64 0),.base (.int .i64 0),.base (.int .i64 0),.base (.int .i64 0),.base (.int .i64 0),.base (.int .i64 0),.base (.int .i64 0),.base (.int .i64 0),.base (.int .i64 0),.base (.int .i64 0),.base (.int .i64 0),.base (.int .i64 0),.base (.int .i64 0),.base (.int .i64 0),.base (.int .i64 0),.base (.int .i64 0),.base (.int .i64 0),.base (.int .i64 0),.base (.int .i64 0),.base (.int .i64 0),.base (.int .i64 0),.base (.int .i64 0),.base (.int .i64 0),.base (.int .i64 0),.base (.int .i64 0),.base (.int .i64 0),.base (.int .i64 0),.base (.int .i64 0),.base (.int .i64 0),.base (.int .i64 0),.base (.int .i64 0),.base (.int .i64 0),.base (.int .i64 0),.base (.int .i64 0),.base (.int .i64 0),.base (.int .i64 0),.base (.int .i64 0),.base (.int .i64 0),.base (.int .i64 0),.base (.int .i64 0),.base (.int .i64 0),.base (.int .i64 0),.base (.int .i64 0),.base (.int .i64 0),.base (.int .i64 0),.base (.int .i64 0),.base (.int .i64 0),.base (.int .i64 0),.base (.int .i64 0),.base (.int .i64 0),.base (.int .i64 0),.base (.int .i64 0),.base (.int .i64 0),.base (.int .i64 0),.base (.int .i64 0),.base (.int .i64 0),.base (.int .i64 0),.base (.int .i64 0)]:=by unfold TyOK;kernel_rfl
theorem ty49:TyOK Try.prog 49 (.arr 2 3) 2 16 [.base (.int .i64 0),.base (.int .i64 0)]:=by unfold TyOK;kernel_rfl
theorem ty50:TyOK Try.prog 50 (.arr 2 49) 4 32 [.base (.int .i64 0),.base (.int .i64 0),.base (.int .i64 0),.base (.int .i64 0)]:=by unfold TyOK;kernel_rfl
theorem fok4:FnOK Try.prog 4:=⟨Try.f4,Try.func4,by kernel_rfl,by kernel_rfl⟩
theorem fok5:FnOK Try.prog 5:=⟨Try.f5,Try.func5,by kernel_rfl,by kernel_rfl⟩
theorem fok6:FnOK Try.prog 6:=⟨Try.f6,Try.func6,by kernel_rfl,by kernel_rfl⟩
theorem fok7:FnOK Try.prog 7:=⟨Try.f7,Try.func7,by kernel_rfl,by kernel_rfl⟩
theorem fok8:FnOK Try.prog 8:=⟨Try.f8,Try.func8,by kernel_rfl,by kernel_rfl⟩
theorem fok9:FnOK Try.prog 9:=⟨Try.f9,Try.func9,by kernel_rfl,by kernel_rfl⟩
theorem fok10:FnOK Try.prog 10:=⟨Try.f10,Try.func10,by kernel_rfl,by kernel_rfl⟩
theorem fok11:FnOK Try.prog 11:=⟨Try.f11,Try.func11,by kernel_rfl,by kernel_rfl⟩
theorem fok12:FnOK Try.prog 12:=⟨Try.f12,Try.func12,by kernel_rfl,by kernel_rfl⟩
theorem fok13:FnOK Try.prog 13:=⟨Try.f13,Try.func13,by kernel_rfl,by kernel_rfl⟩
theorem fok14:FnOK Try.prog 14:=⟨Try.f14,Try.func14,by kernel_rfl,by kernel_rfl⟩
theorem fok15:FnOK Try.prog 15:=⟨Try.f15,Try.func15,by kernel_rfl,by kernel_rfl⟩
theorem fok16:FnOK Try.prog 16:=⟨Try.f16,Try.func16,by kernel_rfl,by kernel_rfl⟩
theorem fok17:FnOK Try.prog 17:=⟨Try.f17,Try.func17,by kernel_rfl,by kernel_rfl⟩
theorem fok18:FnOK Try.prog 18:=⟨Try.f18,Try.func18,by kernel_rfl,by kernel_rfl⟩
theorem fok19:FnOK Try.prog 19:=⟨Try.f19,Try.func19,by kernel_rfl,by kernel_rfl⟩
theorem mixed:Try.prog.follows .mixedOrders=true:=by kernel_rfl
theorem tmod_pos (v n:Int) (hn:1≤n):-n < v.tmod n∧v.tmod n < n∧v % n=if v.tmod n < 0 then v.tmod n + n else v.tmod n:=by
 have h0:=Int.emod_nonneg v (show n≠0 by omega)
 have h1:=Int.emod_lt_of_pos v (show 0 < n by omega)
 rw [Int.tmod_eq_emod]
 have h3:(n.natAbs:Int)=n:=by omega
 split
 ·refine ⟨by omega,by omega,?_⟩
  rw [if_neg (by omega)];omega
 ·rename_i h
  have h2:v % n≠0:=fun e=>h (.inr (Int.dvd_of_emod_eq_zero e))
  refine ⟨by omega,by omega,?_⟩
  rw [if_pos (by omega)];omega
theorem mod_any (v n:Int) (hn:1≤n) (hn2:n≤9223372036854775807):AFn Try.prog 10 0 [.base (.int .i64 v),.base (.int .i64 n)] mt (.base (.int .i64 (v % n))) mt:=by
 refine AFn.eq Try.func10 rfl rfl (Nat.le_of_ble_eq_true rfl) ?_
 obtain ⟨h1,h2,h3⟩:=tmod_pos v n hn
 refine Wq<|qW 0 1 rfl<|qA rfl<|Nl<|Wq<|qW 5 9 rfl<|qM rfl<|qM rfl<|Od rfl rfl (LO.rem rfl rfl rfl (by omega))<|qA rfl<|Nl<|Wq<|Wq<|qW 13 15 rfl<|qM rfl<|qK rfl<|Nl<|W.cond rfl (fun hb=>?_) (fun hb=>?_)
 ·have hb:v.tmod n < 0:=of_decide_eq_true hb
  refine qW 19 23 rfl<|qM rfl<|qM rfl<|qZ rfl (iW _ (by omega))<|qA rfl<|Nl<|Wq<|qW 27 29 rfl<|qM rfl<|qA rfl<|Nl<|Wz ⟨.inl rfl,_,mt,Rc (Rt0 rfl) (Rv),aM,?_⟩
  exact ⟨by rw [h3,if_pos hb];rfl,rfl⟩
 ·have hb:¬ v.tmod n < 0:=of_decide_eq_false hb
  refine Wu<|Wq<|qW 27 29 rfl<|qM rfl<|qA rfl<|Nl<|Wz ⟨.inl rfl,_,mt,Rc (Rt0 rfl) (Rv),aM,?_⟩
  exact ⟨by rw [h3,if_neg hb];rfl,rfl⟩
def deckC (l:List Int) (at_:Nat):List AV:=[.isl (l.map fun z=>.base (.int .i64 z)) l.length,.base (.int .i64 (at_:Int))]
def nextV (l:List Int) (at_:Nat) (n:Int):Int:=if h:at_ < l.length then l[at_] % n else 0
def nextAt (l:List Int) (at_:Nat):Nat:=if at_ < l.length then at_ + 1 else at_
theorem next_any (l:List Int) (at_:Nat) (n:Int) (hn:1≤n) (hn2:n≤9223372036854775807) (hl:l.length≤9223372036854775807) :
 AFn Try.prog 15 1 [.own 0 0,.base (.int .i64 n)] (up mt 0 (some (deckC l at_))) (.base (.int .i64 (nextV l at_ n))) (up mt 0 (some (deckC l (nextAt l at_)))):=by
 refine AFn.eq Try.func15 rfl rfl (Nat.le_of_ble_eq_true rfl) ?_
 unfold deckC
 refine Wq<|qW 1 2 rfl<|qA rfl<|Nl<|Wq<|Wq<|Wd 6 16 (by decide) rfl mixed rfl<|qM rfl<|Od rfl rfl (Nc rfl rfl)<|qF rfl ty42 rfl<|qL rfl ty3 rfl<|qM rfl<|Od rfl rfl (Nc rfl rfl)<|qF rfl ty42 rfl<|qL rfl ty26 rfl<|qH rfl ty26<|qGe rfl<|Nl ⟨by kernel_rfl,(W.cond rfl (fun hb=>?_) (fun hb=>?_))⟩
 ·have hb:¬ at_ < l.length:=by have:=of_decide_eq_true hb;omega
  refine Wq<|qW 20 21 rfl<|qA rfl<|Nl<|Wz ⟨.inl rfl,_,up mt 0 (some (deckC l at_)),Rc (Rt0 rfl) Rv,aU rfl aM,?_⟩
  exact ⟨by unfold nextV;rw [dif_neg hb];rfl,by unfold nextAt deckC;rw [if_neg hb]⟩
 ·have hb:at_ < l.length:=by have:=of_decide_eq_false hb;omega
  refine Wu ?_
  have he:(at_:Int) + 1 - 1=(at_:Int):=by omega
  refine Wq<|qW 25 33 rfl<|qM rfl<|Od rfl rfl (Nc rfl rfl)<|qF rfl ty42 rfl<|qL rfl ty3 rfl<|qZ rfl (iW _ (by omega))<|Od rfl rfl (Nc rfl rfl)<|qF rfl ty42 rfl<|qS rfl ty3 (Sl rfl) rfl<|Nl ?_
  have hg:(l.map fun z=>AV.base (.int .i64 z))[at_ * 1]?=some (.base (.int .i64 l[at_])):=by simp [hb]
  refine Wq<|Wd 37 51 (by decide) rfl mixed rfl<|qM rfl<|Od rfl rfl (Nc rfl rfl)<|qF rfl ty42 rfl<|qL rfl ty26 rfl<|qM rfl<|Od rfl rfl (Nc rfl rfl)<|qF rfl ty42 rfl<|qL rfl ty3 rfl<|Od rfl rfl (LO.sub_in rfl rfl rfl (iW _ (by omega)))<|qJ rfl he ty26 ty3 (by omega)<|Od rfl rfl (Li rfl rfl hg ty3 rfl)<|qM rfl<|qY rfl (mod_any _ _ hn hn2) fok10 rfl<|qA rfl<|Nl ⟨by kernel_rfl,(Wz ⟨.inl rfl,_,up mt 0 (some (deckC l (at_ + 1))),Rc (Rt0 rfl) Rv,aU rfl aM,?_⟩)⟩
  exact ⟨by unfold nextV;rw [dif_pos hb];rfl,by unfold nextAt deckC;rw [if_pos hb]⟩
theorem new_any (l:List Int):AFn Try.prog 5 0 [.isl (l.map fun z=>.base (.int .i64 z)) l.length] mt (.own 0 0) (up mt 0 (some (deckC l 0))):=by
 refine AFn.eq Try.func5 rfl rfl (Nat.le_of_ble_eq_true rfl) ?_
 unfold deckC
 refine Wq<|qW 0 1 rfl<|qA rfl<|Nl<|Wq<|qW 5 9 rfl<|qM rfl<|Od rfl rfl (Bs rfl ty42 (.cons rfl rfl rfl rfl (Sl rfl) .nil))<|qC rfl<|qA rfl<|Nl<|W.rename [(0,7)] 1 (T':=up mt 2 (some (.own 0 0))) (H':=up mt 0 (some (deckC l 0))) (by decide) (aU (.inr ⟨rfl,fun _ h=>by cases h⟩) aM) (aU ⟨rfl,_,rfl,.inr ⟨rfl,rfl⟩⟩ aM) (Wz ⟨.inl rfl,_,up mt 0 (some (deckC l 0)),Rc (Rt0 rfl) Rv,aU rfl aM,?_⟩)
 exact ⟨rfl,rfl⟩
open Go.ChangeShapes Go.WideShapes Go.ChangeAt Go.RowKit
theorem Try.own:ownKnob Try.prog.godebug=none:=by kernel_rfl
theorem Try.laidOut:laidOutB Try.prog=true:=by kernel_rfl
theorem trodAll_stays {H:Type} {enc:TypeId × Value→H} {P:Program} (hl:laidOutB P=true) {W W':World} {sp':Nat→Bool} :
 ∀ {ts:List TypeId} {vs:List Value} {ds:List (DataW H)} {ps:List MemPlace},(∀ t∈ts,P.readableRec t=true∧t < P.types.size) →
  DataW.TrodAll enc P W 0 (fun _=>true) true ts vs ds ps→(∀ p∈ps,W.sameAt W' p)→(∀ p∈ps,sp' p.block=true)→DataW.TrodAll enc P W' 0 sp' true ts vs ds ps
 | [],[],[],_,_,h,_,_=>h
 | _::_,_::_,_::_,_,hT,⟨p,q,h1,h2,e⟩,hsame,hs =>
  ⟨p,q,WideElems.Trod_stays hl (hT _ (List.mem_cons.2 (Or.inl rfl))).1 (hT _ (List.mem_cons.2 (Or.inl rfl))).2 h1 (fun x hx=>hsame x (by rw [e];exact List.mem_append_left _ hx)) (fun x hx=>hs x (by rw [e];exact List.mem_append_left _ hx)),
   trodAll_stays hl (fun t ht=>hT t (List.mem_cons.2 (Or.inr ht))) h2 (fun x hx=>hsame x (by rw [e];exact List.mem_append_right _ hx)) (fun x hx=>hs x (by rw [e];exact List.mem_append_right _ hx)),e⟩
theorem law_post {H:Type} {enc:TypeId × Value→H} {P:Program} {f:Func} {s:ChangeSpec} {fresh handsOn again:Bool} {W W':World} {args:Array Value} {ds gs:List (DataW H)} {before:List MemPlace}
 (hl:laidOutB P=true) (hT:∀ t∈f.params.toList,P.readableRec t=true∧t < P.types.size) (tb:TypeId) (hb1:f.resultTypes=#[tb]) (hb2:P.underlying tb=some .bool) (hv:s.vars=[])
 (hW:DataW.Whole enc P f.params.toList s.vars false W args.toList ds gs before)
 (hs:(s.fn H (ds++gs)).results=[.lit (.bool true)]∧(s.fn H (ds++gs)).args=ds∧(s.fn H (ds++gs)).vars=[]) (hb:Below W.heap.size W W') :
 s.post enc P f false fresh handsOn again W args (.bool true) W':=by
 have hlt:∀ p∈before,p.block < W.heap.size:=fun p hp=>hW.lt p hp
 have hW0:=hW
 obtain ⟨p,q,hA,hV,rfl,hz,hn⟩:=hW
 rw [hv] at hV
 obtain ⟨rfl,rfl⟩:=trodVars_none hV
 have hsame:∀ x∈p,W.sameAt W' x:=fun x hx=>hb.same (hlt x (List.mem_append_left _ hx))
 have hres:∀ (b:Nat) (sp:Nat→Bool) (hd:Bool),DataW.TrodAll enc P W' b sp hd f.resultTypes.toList ((Value.bool true).resultList f.resultTypes.size) (s.fn H (ds++[])).results []:=by
  intro b sp hd
  rw [hb1,hs.1]
  exact trodAll_mk1 (shut_bool hb2 true)
 have hargs:∀ sp:Nat→Bool,(∀ x∈p++[],sp x.block=true)→DataW.TrodAll enc P W' 0 sp true f.params.toList args.toList (s.fn H (ds++[])).args p:=by
  intro sp hsp
  rw [hs.2.1]
  exact trodAll_stays hl hT hA hsame (fun x hx=>hsp x (List.mem_append_left _ hx))
 have hold:∀ x∈p++[],(fun b=>decide (b < W.heap.size)) x.block=true:=fun x hx=>by simpa using hlt x hx
 have hvs:∀ sp:Nat→Bool,DataW.TrodVars enc P W' sp s.vars (s.fn H (ds++[])).vars []:=by
  intro sp
  rw [hv,hs.2.2]
  simp [DataW.TrodVars]
 refine ⟨ds,[],p++[],[],p,[],hW0,hres _ _ _,hargs _ hold,hvs _,World.keptBut_mono (fun x hx=>⟨hx,?_⟩) (hb.frame (·∈p++[])),fun _=>?_⟩
 ·rw [List.mem_append] at hx
  exact Or.inr hx
 ·refine ⟨ok_one hb1 rfl (okWide_bool_mk hb2 true),_,_,([]++p)++[],⟨[]++p,[],trodAll_append (hargs _ (fun _ _=>rfl)) (hres _ _ _),hvs _,rfl,?_,?_⟩,?_⟩
  ·intro b off hp
   have hin:MemPlace.cell b off∈p++[]:=by simpa using hp
   rw [hb.frozen (hlt _ hin)]
   exact hz b off hin
  ·intro ha;cases ha
  ·intro x hx _
   simpa using hx
end Go.Proofs.Ytneidpjkboaejaa
