/-
  The types of the program. The list of numbers that everything is made from: the next number, a new list.
-/
import Derived.Test.YthbegdeojkdlbaaMab
import Derived.KernelRfl
namespace Go.Proofs.Ythbegdeojkdlbaa
open Go.RowKit
theorem ty3:TyOK Try.prog 3 (.int .i64) 1 8 [.base (.int .i64 0)]:=by unfold TyOK;kernel_rfl
theorem ty4:TyOK Try.prog 4 (.bool) 1 1 [.base (.bool false)]:=by unfold TyOK;kernel_rfl
theorem ty5:TyOK Try.prog 5 (.int .u8) 1 1 [.base (.int .u8 0)]:=by unfold TyOK;kernel_rfl
theorem ty22:TyOK Try.prog 22 (.sl 3) 1 24 [.nils]:=by unfold TyOK;kernel_rfl
theorem ty25:TyOK Try.prog 25 (.sl 41) 1 24 [.nils]:=by unfold TyOK;kernel_rfl
theorem ty27:TyOK Try.prog 27 (.st [(0,1,3),(1,1,4),(2,1,4),(3,1,4),(4,1,3),(5,1,22),(6,1,25)]) 7 72 [.base (.int .i64 0),.base (.bool false),.base (.bool false),.base (.bool false),.base (.int .i64 0),.nils,.nils]:=by unfold TyOK;kernel_rfl
theorem ty29:TyOK Try.prog 29 (.sl 54) 1 24 [.nils]:=by unfold TyOK;kernel_rfl
theorem ty38:TyOK Try.prog 38 (.st [(0,1,22),(1,1,3)]) 2 32 [.nils,.base (.int .i64 0)]:=by unfold TyOK;kernel_rfl
theorem ty41:TyOK Try.prog 41 (.st [(0,1,3),(1,1,3)]) 2 16 [.base (.int .i64 0),.base (.int .i64 0)]:=by unfold TyOK;kernel_rfl
theorem ty42:TyOK Try.prog 42 (.int .u64) 1 8 [.base (.int .u64 0)]:=by unfold TyOK;kernel_rfl
theorem ty44:TyOK Try.prog 44 (.st [(0,1,4),(1,1,42),(2,1,42)]) 3 24 [.base (.bool false),.base (.int .u64 0),.base (.int .u64 0)]:=by unfold TyOK;kernel_rfl
theorem ty46:TyOK Try.prog 46 (.st [(0,3,44),(3,1,3)]) 4 32 [.base (.bool false),.base (.int .u64 0),.base (.int .u64 0),.base (.int .i64 0)]:=by unfold TyOK;kernel_rfl
theorem ty47:TyOK Try.prog 47 (.sl 61) 1 24 [.nils]:=by unfold TyOK;kernel_rfl
theorem ty48:TyOK Try.prog 48 (.sl 84) 1 24 [.nils]:=by unfold TyOK;kernel_rfl
theorem ty49:TyOK Try.prog 49 (.sl 86) 1 24 [.nils]:=by unfold TyOK;kernel_rfl
theorem ty50:TyOK Try.prog 50 (.sl 79) 1 24 [.nils]:=by unfold TyOK;kernel_rfl
theorem ty52:TyOK Try.prog 52 (.st [(0,1,3),(1,1,47),(2,3,44),(5,1,3),(6,1,3),(7,1,3),(8,1,48),(9,1,49),(10,1,50)]) 11 152 [.base (.int .i64 0),.nils,.base (.bool false),.base (.int .u64 0),.base (.int .u64 0),.base (.int .i64 0),.base (.int .i64 0),.base (.int .i64 0),.nils,.nils,.nils]:=by unfold TyOK;kernel_rfl
theorem ty54:TyOK Try.prog 54 (.st [(0,4,46),(4,1,3),(5,11,52)]) 16 192 [.base (.bool false),.base (.int .u64 0),.base (.int .u64 0),.base (.int .i64 0),.base (.int .i64 0),.base (.int .i64 0),.nils,.base (.bool false),.base (.int .u64 0),.base (.int .u64 0),.base (.int .i64 0),.base (.int .i64 0),.base (.int .i64 0),.nils,.nils,.nils]:=by unfold TyOK;kernel_rfl
theorem ty61:TyOK Try.prog 61 (.st [(0,1,4),(1,1,22)]) 2 32 [.base (.bool false),.nils]:=by unfold TyOK;kernel_rfl
theorem ty65:TyOK Try.prog 65 (.st [(0,1,3),(1,1,3)]) 2 16 [.base (.int .i64 0),.base (.int .i64 0)]:=by unfold TyOK;kernel_rfl
theorem ty68:TyOK Try.prog 68 (.sl 65) 1 24 [.nils]:=by unfold TyOK;kernel_rfl
theorem ty69:TyOK Try.prog 69 (.arr 5 3) 5 40 [.base (.int .i64 0),.base (.int .i64 0),.base (.int .i64 0),.base (.int .i64 0),.base (.int .i64 0)]:=by unfold TyOK;kernel_rfl
theorem ty77:TyOK Try.prog 77 (.sl 5) 1 24 [.nils]:=by unfold TyOK;kernel_rfl
theorem ty79:TyOK Try.prog 79 (.st [(0,1,3),(1,1,3),(2,1,77)]) 3 40 [.base (.int .i64 0),.base (.int .i64 0),.nils]:=by unfold TyOK;kernel_rfl
theorem ty82:TyOK Try.prog 82 (.int .u64) 1 8 [.base (.int .u64 0)]:=by unfold TyOK;kernel_rfl
theorem ty84:TyOK Try.prog 84 (.st [(0,1,3),(1,1,3)]) 2 16 [.base (.int .i64 0),.base (.int .i64 0)]:=by unfold TyOK;kernel_rfl
theorem ty86:TyOK Try.prog 86 (.st [(0,1,3),(1,1,3),(2,1,3)]) 3 24 [.base (.int .i64 0),.base (.int .i64 0),.base (.int .i64 0)]:=by unfold TyOK;kernel_rfl
theorem fok4:FnOK Try.prog 4:=⟨Try.f4,Try.func4,by kernel_rfl,by kernel_rfl⟩
theorem fok5:FnOK Try.prog 5:=⟨Try.f5,Try.func5,by kernel_rfl,by kernel_rfl⟩
theorem fok6:FnOK Try.prog 6:=⟨Try.f6,Try.func6,by kernel_rfl,by kernel_rfl⟩
theorem fok7:FnOK Try.prog 7:=⟨Try.f7,Try.func7,by kernel_rfl,by kernel_rfl⟩
theorem fok8:FnOK Try.prog 8:=⟨Try.f8,Try.func8,by kernel_rfl,by kernel_rfl⟩
theorem fok9:FnOK Try.prog 9:=⟨Try.f9,Try.func9,by kernel_rfl,by kernel_rfl⟩
theorem fok10:FnOK Try.prog 10:=⟨Try.f10,Try.func10,by kernel_rfl,by kernel_rfl⟩
theorem fok11:FnOK Try.prog 11:=⟨Try.f11,Try.func11,by kernel_rfl,by kernel_rfl⟩
theorem fok12:FnOK Try.prog 12:=⟨Try.f12,Try.func12,by kernel_rfl,by kernel_rfl⟩
theorem fok13:FnOK Try.prog 13:=⟨Try.f13,Try.func13,by kernel_rfl,by kernel_rfl⟩
theorem fok14:FnOK Try.prog 14:=⟨Try.f14,Try.func14,by kernel_rfl,by kernel_rfl⟩
theorem fok15:FnOK Try.prog 15:=⟨Try.f15,Try.func15,by kernel_rfl,by kernel_rfl⟩
theorem fok16:FnOK Try.prog 16:=⟨Try.f16,Try.func16,by kernel_rfl,by kernel_rfl⟩
theorem fok17:FnOK Try.prog 17:=⟨Try.f17,Try.func17,by kernel_rfl,by kernel_rfl⟩
theorem fok18:FnOK Try.prog 18:=⟨Try.f18,Try.func18,by kernel_rfl,by kernel_rfl⟩
theorem fok19:FnOK Try.prog 19:=⟨Try.f19,Try.func19,by kernel_rfl,by kernel_rfl⟩
theorem fok20:FnOK Try.prog 20:=⟨Try.f20,Try.func20,by kernel_rfl,by kernel_rfl⟩
theorem fok21:FnOK Try.prog 21:=⟨Try.f21,Try.func21,by kernel_rfl,by kernel_rfl⟩
theorem fok22:FnOK Try.prog 22:=⟨Try.f22,Try.func22,by kernel_rfl,by kernel_rfl⟩
theorem fok23:FnOK Try.prog 23:=⟨Try.f23,Try.func23,by kernel_rfl,by kernel_rfl⟩
theorem fok24:FnOK Try.prog 24:=⟨Try.f24,Try.func24,by kernel_rfl,by kernel_rfl⟩
theorem fok25:FnOK Try.prog 25:=⟨Try.f25,Try.func25,by kernel_rfl,by kernel_rfl⟩
theorem fok26:FnOK Try.prog 26:=⟨Try.f26,Try.func26,by kernel_rfl,by kernel_rfl⟩
theorem fok27:FnOK Try.prog 27:=⟨Try.f27,Try.func27,by kernel_rfl,by kernel_rfl⟩
theorem fok28:FnOK Try.prog 28:=⟨Try.f28,Try.func28,by kernel_rfl,by kernel_rfl⟩
theorem fok29:FnOK Try.prog 29:=⟨Try.f29,Try.func29,by kernel_rfl,by kernel_rfl⟩
theorem fok30:FnOK Try.prog 30:=⟨Try.f30,Try.func30,by kernel_rfl,by kernel_rfl⟩
theorem fok31:FnOK Try.prog 31:=⟨Try.f31,Try.func31,by kernel_rfl,by kernel_rfl⟩
theorem fok32:FnOK Try.prog 32:=⟨Try.f32,Try.func32,by kernel_rfl,by kernel_rfl⟩
theorem fok33:FnOK Try.prog 33:=⟨Try.f33,Try.func33,by kernel_rfl,by kernel_rfl⟩
theorem fok34:FnOK Try.prog 34:=⟨Try.f34,Try.func34,by kernel_rfl,by kernel_rfl⟩
theorem fok35:FnOK Try.prog 35:=⟨Try.f35,Try.func35,by kernel_rfl,by kernel_rfl⟩
theorem mixed:Try.prog.follows .mixedOrders=true:=by kernel_rfl
theorem tmod_pos (v n:Int) (hn:1≤n):-n < v.tmod n∧v.tmod n < n∧v % n=if v.tmod n < 0 then v.tmod n + n else v.tmod n:=by
 have h0:=Int.emod_nonneg v (show n≠0 by omega)
 have h1:=Int.emod_lt_of_pos v (show 0 < n by omega)
 rw [Int.tmod_eq_emod]
 have h3:(n.natAbs:Int)=n:=by omega
 split
 ·refine ⟨by omega,by omega,?_⟩
  rw [if_neg (by omega)];omega
 ·rename_i h
  have h2:v % n≠0:=fun e=>h (.inr (Int.dvd_of_emod_eq_zero e))
  refine ⟨by omega,by omega,?_⟩
  rw [if_pos (by omega)];omega
theorem mod_any (v n:Int) (hn:1≤n) (hn2:n≤9223372036854775807):AFn Try.prog 19 0 [.base (.int .i64 v),.base (.int .i64 n)] mt (.base (.int .i64 (v % n))) mt:=by
 refine AFn.eq Try.func19 rfl rfl (Nat.le_of_ble_eq_true rfl) ?_
 obtain ⟨h1,h2,h3⟩:=tmod_pos v n hn
 refine Wq<|qW 0 1 rfl<|qA rfl<|Nl<|Wq<|qW 5 9 rfl<|qM rfl<|qM rfl<|Od rfl rfl (LO.rem rfl rfl rfl (by omega))<|qA rfl<|Nl<|Wq<|Wq<|qW 13 15 rfl<|qM rfl<|qK rfl<|Nl<|W.cond rfl (fun hb=>?_) (fun hb=>?_)
 ·have hb:v.tmod n < 0:=of_decide_eq_true hb
  refine qW 19 23 rfl<|qM rfl<|qM rfl<|qZ rfl (iW _ (by omega))<|qA rfl<|Nl<|Wq<|qW 27 29 rfl<|qM rfl<|qA rfl<|Nl<|Wz ⟨.inl rfl,_,mt,Rc (Rt0 rfl) (Rv),aM,?_⟩
  exact ⟨by rw [h3,if_pos hb];rfl,rfl⟩
 ·have hb:¬ v.tmod n < 0:=of_decide_eq_false hb
  refine Wu<|Wq<|qW 27 29 rfl<|qM rfl<|qA rfl<|Nl<|Wz ⟨.inl rfl,_,mt,Rc (Rt0 rfl) (Rv),aM,?_⟩
  exact ⟨by rw [h3,if_neg hb];rfl,rfl⟩
def deckC (l:List Int) (at_:Nat):List AV:=[.isl (l.map fun z=>.base (.int .i64 z)) l.length,.base (.int .i64 (at_:Int))]
def nextV (l:List Int) (at_:Nat) (n:Int):Int:=if h:at_ < l.length then l[at_] % n else 0
def nextAt (l:List Int) (at_:Nat):Nat:=if at_ < l.length then at_ + 1 else at_
theorem next_any (l:List Int) (at_:Nat) (n:Int) (hn:1≤n) (hn2:n≤9223372036854775807) (hl:l.length≤9223372036854775807) :
 AFn Try.prog 13 1 [.own 0 0,.base (.int .i64 n)] (up mt 0 (some (deckC l at_))) (.base (.int .i64 (nextV l at_ n))) (up mt 0 (some (deckC l (nextAt l at_)))):=by
 refine AFn.eq Try.func13 rfl rfl (Nat.le_of_ble_eq_true rfl) ?_
 unfold deckC
 refine Wq<|qW 1 2 rfl<|qA rfl<|Nl<|Wq<|Wq<|Wd 6 16 (by decide) rfl mixed rfl<|qM rfl<|Od rfl rfl (Nc rfl rfl)<|qF rfl ty38 rfl<|qL rfl ty3 rfl<|qM rfl<|Od rfl rfl (Nc rfl rfl)<|qF rfl ty38 rfl<|qL rfl ty22 rfl<|qH rfl ty22<|qGe rfl<|Nl ⟨by kernel_rfl,(W.cond rfl (fun hb=>?_) (fun hb=>?_))⟩
 ·have hb:¬ at_ < l.length:=by have:=of_decide_eq_true hb;omega
  refine Wq<|qW 20 21 rfl<|qA rfl<|Nl<|Wz ⟨.inl rfl,_,up mt 0 (some (deckC l at_)),Rc (Rt0 rfl) Rv,aU rfl aM,?_⟩
  exact ⟨by unfold nextV;rw [dif_neg hb];rfl,by unfold nextAt deckC;rw [if_neg hb]⟩
 ·have hb:at_ < l.length:=by have:=of_decide_eq_false hb;omega
  refine Wu ?_
  have he:(at_:Int) + 1 - 1=(at_:Int):=by omega
  refine Wq<|qW 25 33 rfl<|qM rfl<|Od rfl rfl (Nc rfl rfl)<|qF rfl ty38 rfl<|qL rfl ty3 rfl<|qZ rfl (iW _ (by omega))<|Od rfl rfl (Nc rfl rfl)<|qF rfl ty38 rfl<|qS rfl ty3 (Sl rfl) rfl<|Nl ?_
  have hg:(l.map fun z=>AV.base (.int .i64 z))[at_ * 1]?=some (.base (.int .i64 l[at_])):=by simp [hb]
  refine Wq<|Wd 37 51 (by decide) rfl mixed rfl<|qM rfl<|Od rfl rfl (Nc rfl rfl)<|qF rfl ty38 rfl<|qL rfl ty22 rfl<|qM rfl<|Od rfl rfl (Nc rfl rfl)<|qF rfl ty38 rfl<|qL rfl ty3 rfl<|Od rfl rfl (LO.sub_in rfl rfl rfl (iW _ (by omega)))<|qJ rfl he ty22 ty3 (by omega)<|Od rfl rfl (Li rfl rfl hg ty3 rfl)<|qM rfl<|qY rfl (mod_any _ _ hn hn2) fok19 rfl<|qA rfl<|Nl ⟨by kernel_rfl,(Wz ⟨.inl rfl,_,up mt 0 (some (deckC l (at_ + 1))),Rc (Rt0 rfl) Rv,aU rfl aM,?_⟩)⟩
  exact ⟨by unfold nextV;rw [dif_pos hb];rfl,by unfold nextAt deckC;rw [if_pos hb]⟩
theorem new_any (l:List Int):AFn Try.prog 4 0 [.isl (l.map fun z=>.base (.int .i64 z)) l.length] mt (.own 0 0) (up mt 0 (some (deckC l 0))):=by
 refine AFn.eq Try.func4 rfl rfl (Nat.le_of_ble_eq_true rfl) ?_
 unfold deckC
 refine Wq<|qW 0 1 rfl<|qA rfl<|Nl<|Wq<|qW 5 9 rfl<|qM rfl<|Od rfl rfl (Bs rfl ty38 (.cons rfl rfl rfl rfl (Sl rfl) .nil))<|qC rfl<|qA rfl<|Nl<|W.rename [(0,7)] 1 (T':=up mt 2 (some (.own 0 0))) (H':=up mt 0 (some (deckC l 0))) (by decide) (aU (.inr ⟨rfl,fun _ h=>by cases h⟩) aM) (aU ⟨rfl,_,rfl,.inr ⟨rfl,rfl⟩⟩ aM) (Wz ⟨.inl rfl,_,up mt 0 (some (deckC l 0)),Rc (Rt0 rfl) Rv,aU rfl aM,?_⟩)
 exact ⟨rfl,rfl⟩
end Go.Proofs.Ythbegdeojkdlbaa
