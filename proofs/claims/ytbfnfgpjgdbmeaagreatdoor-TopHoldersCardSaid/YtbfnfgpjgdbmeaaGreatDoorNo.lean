/-
  Whether one of some elements is such; whether resources are valid, cover others, hold a prefix: the program's functions.
-/
import Derived.Test.YtbfnfgpjgdbmeaaGreatDoorNn
import Derived.Test.YtbfnfgpjgdbmeaaGreatDoorMab
namespace Go.Proofs.YtbfnfgpjgdbmeaaGreatDoor
open Go.RowKit
theorem any_take {α:Type} {f:α→Bool} {l:List α} {k:Nat} (h:k < l.length) (h0:(l.take k).any f=false):(l.take (k + 1)).any f=f l[k]:=by
 rw [List.take_add_one,List.getElem?_eq_getElem h,List.any_append,h0]
 simp
theorem any_found {α:Type} {f:α→Bool} {l:List α} {k:Nat} (h:k < l.length) (h0:f l[k]=true):l.any f=true:=List.any_eq_true.2 ⟨l[k],List.getElem_mem h,h0⟩
set_option maxHeartbeats 1000000 in
theorem ixSpan_any (l:List (Int × Int)) (g:FuncId) (hF:FnOK Tryz.prog g) (f:(Int × Int)→Bool) (hcon:∀ z∈l,AFn Tryz.prog g 0 [.agg (spnC z)] mt (.base (.bool (f z))) mt) (hl:l.length≤1000):∃ v H',AFn Tryz.prog 125 0 [.isl (spnsC l) l.length,.base (.func (.func g) #[] #[])] mt v H'∧∃ k:Int,decide (k ≥ 0)=l.any f∧v=.base (.int .i64 k)∧H'=mt:=by
 refine AFn.ex Tryz.func125 rfl rfl (Nat.le_of_ble_eq_true rfl)<|Wq<|qW 0 1 rfl<|qA rfl<|Nl<|Wq<|Wq<|qW 5 8 rfl<|qM rfl<|qH rfl ty44<|qM rfl<|Nl<|Wb<|W.rename [] 0 (by decide) ?_ ?_ (W.loop_ind (α:=Nat) (fun x=>l.length - x) 0 (fun x=>up (up (up (up mt 0 (some (.isl (spnsC l) l.length))) 1 (some (.base (.func (.func g) #[] #[])))) 7 (some (.base (.int .i64 (l.length:Int))))) 8 (some (.base (.int .i64 (x:Int))))) (fun x=>mt) (fun x=>x≤l.length∧(l.take x).any f=false) 0 (show 0≤l.length∧(l.take 0).any f=false from ⟨Nat.zero_le _,by simp⟩) ?_)
 ·exact aR (aR (aR (aR aM)))
 ·exact aM
 rintro k hIA ihA
 try (dsimp only at hIA)
 try dsimp only
 obtain ⟨hk,hI⟩:=hIA
 by_cases hc:k < l.length
 ·have g1:decide ((k:Int) < (l.length:Int))=true:=decide_eq_true (by omega)
  have hkk:(k:Int) + 1=((k + 1:Nat):Int):=by omega
  have hut:=spn_tk' hc
  have hcz:=hcon l[k] (List.getElem_mem hc)
  have hat:=any_take hc hI
  have haf:=any_found (f:=f) hc
  obtain ⟨z,hz⟩:∃ z,l[k]=z:=⟨_,rfl⟩
  rw [hz] at hut hcz hat haf
  refine Wq<|qW 12 13 rfl<|qK rfl<|Nl<|Wq<|Wt rfl ‹_›<|Wu<|Wq<|Wb<|Wq<|qW 17 19 rfl<|qM rfl<|qA rfl<|Nl ?_
  cases hq:f z with
  | true =>
   rw [hq] at hcz
   refine Wq<|qW 23 29 rfl<|qM rfl<|qM rfl<|qM rfl<|qJ rfl rfl ty44 ty125 (by omega)<|Od rfl rfl (Lg rfl rfl ty125 rfl hut)<|Od rfl rfl (LO.callF (fr:=[]) rfl rfl hcz hF (.cons rfl (.pure rfl) .nil) rfl)<|Nl<|Wt rfl rfl<|Wq<|qW 33 35 rfl<|qM rfl<|qA rfl<|Nl<|Wz ⟨.inl rfl,_,mt,(Rc (Rt0 rfl) Rv),aM,?_⟩
   exact ⟨(k:Int),by rw [haf hq];exact decide_eq_true (by omega),rfl,rfl⟩
  | false =>
   rw [hq] at hcz hat
   refine Wq<|qW 23 29 rfl<|qM rfl<|qM rfl<|qM rfl<|qJ rfl rfl ty44 ty125 (by omega)<|Od rfl rfl (Lg rfl rfl ty125 rfl hut)<|Od rfl rfl (LO.callF (fr:=[]) rfl rfl hcz hF (.cons rfl (.pure rfl) .nil) rfl)<|Nl<|Wo rfl rfl<|Wu<|qW 39 41 rfl<|qZ rfl (iW _ (by omega))<|qM rfl<|Nl ?_
   rw [hkk]
   refine WL.rename [] 0 (by decide) ?_ ?_ (ihA (k + 1) (show l.length - (k + 1) < l.length - k from by omega) (show (k + 1)≤l.length∧(l.take (k + 1)).any f=false from ⟨by omega,hat⟩))
   ·exact aR (aR (aR (aR aM)))
   ·exact aM
 ·have g1:decide ((k:Int) < (l.length:Int))=false:=decide_eq_false (by omega)
  rw [List.take_of_length_le (by omega)] at hI
  refine Wq<|qW 12 13 rfl<|qK rfl<|Nl<|Wq<|Wo rfl ‹_›<|Wx<|Wq<|qW 45 46 rfl<|qA rfl<|Nl<|Wz ⟨.inl rfl,_,mt,(Rc (Rt0 rfl) Rv),aM,?_⟩
  exact ⟨-1,by rw [hI];rfl,rfl,rfl⟩
theorem cnSpan_any (l:List (Int × Int)) (g:FuncId) (hF:FnOK Tryz.prog g) (f:(Int × Int)→Bool) (hcon:∀ z∈l,AFn Tryz.prog g 0 [.agg (spnC z)] mt (.base (.bool (f z))) mt) (hl:l.length≤1000):AFn Tryz.prog 47 0 [.isl (spnsC l) l.length,.base (.func (.func g) #[] #[])] mt (.base (.bool (l.any f))) mt:=by
 refine AFn.eq Tryz.func47 rfl rfl (Nat.le_of_ble_eq_true rfl) ?_
 obtain ⟨_,_,hix,k,hk,rfl,rfl⟩:=ixSpan_any l g hF f hcon hl
 rw [← hk]
 refine Wq<|qW 0 1 rfl<|qA rfl<|Nl<|Wq<|qW 5 10 rfl<|qM rfl<|qM rfl<|qY rfl (hix) fok125 rfl<|qGe rfl<|qA rfl<|Nl<|Wz ⟨.inl rfl,_,mt,(Rc (Rt0 rfl) Rv),aM,?_⟩
 exact ⟨rfl,rfl⟩
set_option maxHeartbeats 1000000 in
theorem ixRange_any (l:List (Int × Int)) (g:FuncId) (cl:List AV) (hp:cl.all (fun c=>c.pure1)=true) (hpp:(AV.clo g cl).pure=true) (hF:FnOK Tryz.prog g) (f:(Int × Int)→Bool) (hcon:∀ z∈l,AFn Tryz.prog g 0 (.agg (rngC z)::cl) mt (.base (.bool (f z))) mt) (hl:l.length≤1000):∃ v H',AFn Tryz.prog 145 0 [.isl (rngsC l) l.length,.clo g cl] mt v H'∧∃ k:Int,decide (k ≥ 0)=l.any f∧v=.base (.int .i64 k)∧H'=mt:=by
 have _:=hpp
 refine AFn.ex Tryz.func145 rfl rfl (Nat.le_of_ble_eq_true rfl)<|Wq<|qW 0 1 rfl<|qA rfl<|Nl<|Wq<|Wq<|qW 5 8 rfl<|qM rfl<|qH rfl ty43<|qM rfl<|Nl<|Wb<|W.rename [] 0 (by decide) ?_ ?_ (W.loop_ind (α:=Nat) (fun x=>l.length - x) 0 (fun x=>up (up (up (up mt 0 (some (.isl (rngsC l) l.length))) 1 (some (.clo g cl))) 7 (some (.base (.int .i64 (l.length:Int))))) 8 (some (.base (.int .i64 (x:Int))))) (fun x=>mt) (fun x=>x≤l.length∧(l.take x).any f=false) 0 (show 0≤l.length∧(l.take 0).any f=false from ⟨Nat.zero_le _,by simp⟩) ?_)
 ·exact aR (aR (aR (aR aM)))
 ·exact aM
 rintro k hIA ihA
 try (dsimp only at hIA)
 try dsimp only
 obtain ⟨hk,hI⟩:=hIA
 by_cases hc:k < l.length
 ·have g1:decide ((k:Int) < (l.length:Int))=true:=decide_eq_true (by omega)
  have hkk:(k:Int) + 1=((k + 1:Nat):Int):=by omega
  have hut:=rng_tk' hc
  have hcz:=hcon l[k] (List.getElem_mem hc)
  have hat:=any_take hc hI
  have haf:=any_found (f:=f) hc
  obtain ⟨z,hz⟩:∃ z,l[k]=z:=⟨_,rfl⟩
  rw [hz] at hut hcz hat haf
  refine Wq<|qW 12 13 rfl<|qK rfl<|Nl<|Wq<|Wt rfl ‹_›<|Wu<|Wq<|Wb<|Wq<|qW 17 19 rfl<|qM rfl<|qA rfl<|Nl ?_
  cases hq:f z with
  | true =>
   rw [hq] at hcz
   refine Wq<|qW 23 29 rfl<|qM rfl<|qM rfl<|qM rfl<|qJ rfl rfl ty43 ty80 (by omega)<|Od rfl rfl (Lg rfl rfl ty80 rfl hut)<|Od rfl rfl (LO.callC (fr:=[]) (args:=[.agg (rngC z)]) rfl rfl hp hcz hF (.cons rfl (.pure rfl) .nil) rfl)<|Nl<|Wt rfl rfl<|Wq<|qW 33 35 rfl<|qM rfl<|qA rfl<|Nl<|Wz ⟨.inl rfl,_,mt,(Rc (Rt0 rfl) Rv),aM,?_⟩
   exact ⟨(k:Int),by rw [haf hq];exact decide_eq_true (by omega),rfl,rfl⟩
  | false =>
   rw [hq] at hcz hat
   refine Wq<|qW 23 29 rfl<|qM rfl<|qM rfl<|qM rfl<|qJ rfl rfl ty43 ty80 (by omega)<|Od rfl rfl (Lg rfl rfl ty80 rfl hut)<|Od rfl rfl (LO.callC (fr:=[]) (args:=[.agg (rngC z)]) rfl rfl hp hcz hF (.cons rfl (.pure rfl) .nil) rfl)<|Nl<|Wo rfl rfl<|Wu<|qW 39 41 rfl<|qZ rfl (iW _ (by omega))<|qM rfl<|Nl ?_
   rw [hkk]
   refine WL.rename [] 0 (by decide) ?_ ?_ (ihA (k + 1) (show l.length - (k + 1) < l.length - k from by omega) (show (k + 1)≤l.length∧(l.take (k + 1)).any f=false from ⟨by omega,hat⟩))
   ·exact aR (aR (aR (aR aM)))
   ·exact aM
 ·have g1:decide ((k:Int) < (l.length:Int))=false:=decide_eq_false (by omega)
  rw [List.take_of_length_le (by omega)] at hI
  refine Wq<|qW 12 13 rfl<|qK rfl<|Nl<|Wq<|Wo rfl ‹_›<|Wx<|Wq<|qW 45 46 rfl<|qA rfl<|Nl<|Wz ⟨.inl rfl,_,mt,(Rc (Rt0 rfl) Rv),aM,?_⟩
  exact ⟨-1,by rw [hI];rfl,rfl,rfl⟩
theorem cnRange_any (l:List (Int × Int)) (g:FuncId) (cl:List AV) (hp:cl.all (fun c=>c.pure1)=true) (hpp:(AV.clo g cl).pure=true) (hF:FnOK Tryz.prog g) (f:(Int × Int)→Bool) (hcon:∀ z∈l,AFn Tryz.prog g 0 (.agg (rngC z)::cl) mt (.base (.bool (f z))) mt) (hl:l.length≤1000):AFn Tryz.prog 69 0 [.isl (rngsC l) l.length,.clo g cl] mt (.base (.bool (l.any f))) mt:=by
 refine AFn.eq Tryz.func69 rfl rfl (Nat.le_of_ble_eq_true rfl) ?_
 obtain ⟨_,_,hix,k,hk,rfl,rfl⟩:=ixRange_any l g cl hp hpp hF f hcon hl
 rw [← hk]
 refine Wq<|qW 0 1 rfl<|qA rfl<|Nl<|Wq<|qW 5 10 rfl<|qM rfl<|qM rfl<|Od rfl rfl (C0 (fr:=[]) rfl rfl (hix) fok145 (.cons rfl (.pure rfl) (.cons rfl (.pure hpp) .nil)) rfl)<|qGe rfl<|qA rfl<|Nl<|Wz ⟨.inl rfl,_,mt,(Rc (Rt0 rfl) Rv),aM,?_⟩
 exact ⟨rfl,rfl⟩
set_option maxHeartbeats 1000000 in
theorem ixObject_any (l:List ObjR) (g:FuncId) (cl:List AV) (hp:cl.all (fun c=>c.pure1)=true) (hpp:(AV.clo g cl).pure=true) (hF:FnOK Tryz.prog g) (f:ObjR→Bool) (hcon:∀ z∈l,AFn Tryz.prog g 0 (.agg (objC z)::cl) mt (.base (.bool (f z))) mt) (hl:l.length≤1000):∃ v H',AFn Tryz.prog 211 0 [.isl (objsC l) l.length,.clo g cl] mt v H'∧∃ k:Int,decide (k ≥ 0)=l.any f∧v=.base (.int .i64 k)∧H'=mt:=by
 have _:=hpp
 refine AFn.ex Tryz.func211 rfl rfl (Nat.le_of_ble_eq_true rfl)<|Wq<|qW 0 1 rfl<|qA rfl<|Nl<|Wq<|Wq<|qW 5 8 rfl<|qM rfl<|qH rfl ty30<|qM rfl<|Nl<|Wb<|W.rename [] 0 (by decide) ?_ ?_ (W.loop_ind (α:=Nat) (fun x=>l.length - x) 0 (fun x=>up (up (up (up mt 0 (some (.isl (objsC l) l.length))) 1 (some (.clo g cl))) 7 (some (.base (.int .i64 (l.length:Int))))) 8 (some (.base (.int .i64 (x:Int))))) (fun x=>mt) (fun x=>x≤l.length∧(l.take x).any f=false) 0 (show 0≤l.length∧(l.take 0).any f=false from ⟨Nat.zero_le _,by simp⟩) ?_)
 ·exact aR (aR (aR (aR aM)))
 ·exact aM
 rintro k hIA ihA
 try (dsimp only at hIA)
 try dsimp only
 obtain ⟨hk,hI⟩:=hIA
 by_cases hc:k < l.length
 ·have g1:decide ((k:Int) < (l.length:Int))=true:=decide_eq_true (by omega)
  have hkk:(k:Int) + 1=((k + 1:Nat):Int):=by omega
  have hut:=objs_tk hc
  have hcz:=hcon l[k] (List.getElem_mem hc)
  have hat:=any_take hc hI
  have haf:=any_found (f:=f) hc
  obtain ⟨z,hz⟩:∃ z,l[k]=z:=⟨_,rfl⟩
  rw [hz] at hut hcz hat haf
  refine Wq<|qW 12 13 rfl<|qK rfl<|Nl<|Wq<|Wt rfl ‹_›<|Wu<|Wq<|Wb<|Wq<|qW 17 19 rfl<|qM rfl<|qA rfl<|Nl ?_
  cases hq:f z with
  | true =>
   rw [hq] at hcz
   refine Wq<|qW 23 29 rfl<|qM rfl<|qM rfl<|qM rfl<|qJ rfl rfl ty30 ty40 (by omega)<|Od rfl rfl (Lg rfl rfl ty40 rfl hut)<|Od rfl rfl (LO.callC (fr:=[]) (args:=[.agg (objC z)]) rfl rfl hp hcz hF (.cons rfl (.pure rfl) .nil) rfl)<|Nl<|Wt rfl rfl<|Wq<|qW 33 35 rfl<|qM rfl<|qA rfl<|Nl<|Wz ⟨.inl rfl,_,mt,(Rc (Rt0 rfl) Rv),aM,?_⟩
   exact ⟨(k:Int),by rw [haf hq];exact decide_eq_true (by omega),rfl,rfl⟩
  | false =>
   rw [hq] at hcz hat
   refine Wq<|qW 23 29 rfl<|qM rfl<|qM rfl<|qM rfl<|qJ rfl rfl ty30 ty40 (by omega)<|Od rfl rfl (Lg rfl rfl ty40 rfl hut)<|Od rfl rfl (LO.callC (fr:=[]) (args:=[.agg (objC z)]) rfl rfl hp hcz hF (.cons rfl (.pure rfl) .nil) rfl)<|Nl<|Wo rfl rfl<|Wu<|qW 39 41 rfl<|qZ rfl (iW _ (by omega))<|qM rfl<|Nl ?_
   rw [hkk]
   refine WL.rename [] 0 (by decide) ?_ ?_ (ihA (k + 1) (show l.length - (k + 1) < l.length - k from by omega) (show (k + 1)≤l.length∧(l.take (k + 1)).any f=false from ⟨by omega,hat⟩))
   ·exact aR (aR (aR (aR aM)))
   ·exact aM
 ·have g1:decide ((k:Int) < (l.length:Int))=false:=decide_eq_false (by omega)
  rw [List.take_of_length_le (by omega)] at hI
  refine Wq<|qW 12 13 rfl<|qK rfl<|Nl<|Wq<|Wo rfl ‹_›<|Wx<|Wq<|qW 45 46 rfl<|qA rfl<|Nl<|Wz ⟨.inl rfl,_,mt,(Rc (Rt0 rfl) Rv),aM,?_⟩
  exact ⟨-1,by rw [hI];rfl,rfl,rfl⟩
theorem cnObject_any (l:List ObjR) (g:FuncId) (cl:List AV) (hp:cl.all (fun c=>c.pure1)=true) (hpp:(AV.clo g cl).pure=true) (hF:FnOK Tryz.prog g) (f:ObjR→Bool) (hcon:∀ z∈l,AFn Tryz.prog g 0 (.agg (objC z)::cl) mt (.base (.bool (f z))) mt) (hl:l.length≤1000):AFn Tryz.prog 151 0 [.isl (objsC l) l.length,.clo g cl] mt (.base (.bool (l.any f))) mt:=by
 refine AFn.eq Tryz.func151 rfl rfl (Nat.le_of_ble_eq_true rfl) ?_
 obtain ⟨_,_,hix,k,hk,rfl,rfl⟩:=ixObject_any l g cl hp hpp hF f hcon hl
 rw [← hk]
 refine Wq<|qW 0 1 rfl<|qA rfl<|Nl<|Wq<|qW 5 10 rfl<|qM rfl<|qM rfl<|Od rfl rfl (C0 (fr:=[]) rfl rfl (hix) fok211 (.cons rfl (.pure rfl) (.cons rfl (.pure hpp) .nil)) rfl)<|qGe rfl<|qA rfl<|Nl<|Wz ⟨.inl rfl,_,mt,(Rc (Rt0 rfl) Rv),aM,?_⟩
 exact ⟨rfl,rfl⟩
theorem mnX_len {nx pv:Int→Option Int}:∀ (ys:List (Int × Int)) (f t:Int),(mnX nx pv f t ys).length≤ys.length + 1:=by
 intro ys
 induction ys with
 | nil=>intro f t;simp [mnX]
 | cons y ys ih =>
  intro f t
  unfold mnX
  split
  ·have:=ih f t;simp;omega
  ·have key:∀ A B:List (Int × Int),A.length≤1→B.length≤ys.length + 1→(A++B).length≤(y::ys).length + 1:=fun A B h1 h2=>by rw [List.length_append,List.length_cons];omega
   refine key _ _ ?_ ?_
   ·cases pv y.1 with
    | none=>exact Nat.zero_le _
    | some l=>dsimp only;split<;>simp
   ·cases nx y.2 with
    | none=>exact Nat.zero_le _
    | some n =>
     dsimp only
     split
     ·exact Nat.zero_le _
     ·exact ih n t
theorem minR_len (a b:List (Int × Int)) (hb:b.length≤256):(minR a b).length≤bd600 a.length:=by
 unfold minR
 induction a with
 | nil=>simp
 | cons x a ih =>
  rw [List.flatMap_cons,List.length_append,List.length_cons,bd600_succ]
  have:=mnX_len (nx:=nxK) (pv:=pvK) b x.1 x.2
  omega
def gA:List Value:=[.func (.func 55) #[] #[],.func (.func 57) #[] #[],.func (.func 443) #[] #[]]
def gNm:List Value:=[.func (.func 136) #[] #[],.func (.func 444) #[] #[],.func (.func 445) #[] #[]]
theorem gA_raw:gRaw 0=some gA:=rfl
theorem gN_raw:gRaw 1=some gNm:=rfl
theorem gA_tk:Tk (gA.map AV.base) 0 3 ordA:=Tk.lit rfl
theorem gN_tk:Tk (gNm.map AV.base) 0 3 ordN:=Tk.lit rfl
theorem setminus_any (s t:Rsc) (hs:RscOk s) (ht:RscOk t):AFn Tryz.prog 210 0 [.agg (rscC s),.agg (rscC t)] mt (.agg (rscC ⟨minR s.ad t.ad,minR s.ns t.ns⟩)) mt:=by
 refine AFn.eq Tryz.func210 rfl rfl (Nat.le_of_ble_eq_true rfl) ?_
 have hA:=minusA_any s.ad t.ad hs.ai ht.ai hs.al ht.al
 have hN:=minusN_any s.ns t.ns hs.ni ht.ni hs.nl ht.nl
 unfold rscC
 dsimp only
 refine Wq<|qW 0 3 rfl<|qC rfl<|qC rfl<|qB rfl ty130<|Nl<|Wq<|Wd 7 21 (by decide) rfl mixed rfl<|Od rfl rfl (LO.glob 0 gA_raw rfl rfl (Lg rfl rfl ty134 rfl gA_tk))<|qF rfl ty130 rfl<|qL rfl ty127 rfl<|qF rfl ty130 rfl<|qL rfl ty127 rfl<|qY rfl (hA) fok288 rfl<|Od rfl rfl (LO.glob 1 gN_raw rfl rfl (Lg rfl rfl ty138 rfl gN_tk))<|qF rfl ty130 rfl<|qL rfl ty128 rfl<|qF rfl ty130 rfl<|qL rfl ty128 rfl<|qY rfl (hN) fok289 rfl<|Od rfl rfl (Bs rfl ty130 (.cons rfl rfl rfl rfl (Sl rfl) (.cons rfl rfl rfl rfl (Sl rfl) .nil)))<|qS rfl ty130 (Sl rfl) rfl<|Nl ⟨by kernel_rfl,(Wz ⟨.inl rfl,_,mt,(Rc (Ra0 rfl rfl ty130 rfl (Tl rfl)) Rv),aM,?_⟩)⟩
 exact ⟨rfl,rfl⟩
theorem covers21_any (a b:Rsc) (ha:RscOk a) (hb:RscOk b):AFn Tryz.prog 148 0 [.agg (rscC a),.agg (rscC b)] mt (.base (.bool (rcP a b))) mt:=by
 refine AFn.eq Tryz.func148 rfl rfl (Nat.le_of_ble_eq_true rfl) ?_
 have h1:=of_any b (by have:=hb.al;omega) (by have:=hb.nl;omega)
 have h2:=of_any a (by have:=ha.al;omega) (by have:=ha.nl;omega)
 have h3:=setminus_any b a hb ha
 have l1:=minR_len b.ad a.ad ha.al
 have l2:=minR_len b.ns a.ns ha.nl
 have l3:=bd600_le hb.al
 have l4:=bd600_le hb.nl
 unfold rcP
 obtain ⟨A,hA⟩:∃ A,minR b.ad a.ad=A:=⟨_,rfl⟩
 obtain ⟨M,hM⟩:∃ M,minR b.ns a.ns=M:=⟨_,rfl⟩
 rw [hA,hM] at h3
 rw [hA] at l1 ⊢
 rw [hM] at l2 ⊢
 have e:((A.length:Int) + (M.length:Int) == 0)=(A.length + M.length == 0):=by
  rw [Bool.eq_iff_iff,beq_iff_eq,beq_iff_eq]
  omega
 unfold rscC at h1 h2 h3 ⊢
 dsimp only at h3
 refine Wq<|qW 0 3 rfl<|qC rfl<|qC rfl<|qA rfl<|Nl<|Wq<|Wd 7 14 (by decide) rfl mixed rfl<|qG rfl ty46 rfl (Tl rfl)<|qY rfl (h1) fok50 rfl<|qG rfl ty46 rfl (Tl rfl)<|qY rfl (h2) fok50 rfl<|qY rfl (h3) fok210 rfl<|qB rfl ty130<|qS rfl ty130 (Sl rfl) rfl<|Nl ⟨by kernel_rfl,(Wq<|qW 18 27 rfl<|qF rfl ty130 rfl<|qL rfl ty127 rfl<|qH rfl ty127<|qF rfl ty130 rfl<|qL rfl ty128 rfl<|qH rfl ty128<|qZ rfl (iW _ (by omega))<|qE rfl<|qA rfl<|Nl<|Wz ⟨.inl rfl,_,mt,(Rc (Rt0 rfl) Rv),aM,?_⟩)⟩
 exact ⟨by rw [e];rfl,rfl⟩
theorem span_ok (u:Int × Int) (h:InN u):AFn Tryz.prog 49 0 [.agg (spnC u)] mt (.base (.bool true)) mt:=by
 refine AFn.eq Tryz.func49 rfl rfl (Nat.le_of_ble_eq_true rfl) ?_
 obtain ⟨c1,c2,c3⟩:=h
 have d1:decide (u.1 ≥ 0)=true:=decide_eq_true c2
 have d2:decide (u.1≤u.2)=true:=decide_eq_true c1
 have d3:decide (u.2≤4294967295)=true:=decide_eq_true c3
 refine Wq<|qW 0 2 rfl<|qC rfl<|qA rfl<|Nl<|Wq<|qW 6 22 rfl<|qF rfl ty125 rfl<|qL rfl ty3 rfl<|qGe rfl<|qM rfl<|gF rfl ‹_› ty125 rfl<|gL rfl ‹_› ty3 rfl<|gF rfl ‹_› ty125 rfl<|gL rfl ‹_› ty3 rfl<|gLe rfl ‹_›<|qT rfl ‹_› rfl<|qM rfl<|gF rfl ‹_› ty125 rfl<|gL rfl ‹_› ty3 rfl<|gLe rfl ‹_›<|qT rfl ‹_› rfl<|qA rfl<|Nl<|Wz ⟨.inl rfl,_,mt,(Rc (Rt0 rfl) Rv),aM,?_⟩
 exact ⟨by rw [d3];rfl,rfl⟩
theorem valid1_ok (u:Int × Int) (h:InN u):AFn Tryz.prog 132 0 [.agg (spnC u)] mt (.base (.bool false)) mt:=by
 refine AFn.eq Tryz.func132 rfl rfl (Nat.le_of_ble_eq_true rfl) ?_
 have h1:=span_ok u h
 refine Wq<|qW 0 2 rfl<|qC rfl<|qA rfl<|Nl<|Wq<|qW 6 10 rfl<|qG rfl ty125 rfl (Tl rfl)<|qY rfl (h1) fok49 rfl<|qO rfl<|qA rfl<|Nl<|Wz ⟨.inl rfl,_,mt,(Rc (Rt0 rfl) Rv),aM,?_⟩
 exact ⟨rfl,rfl⟩
set_option maxHeartbeats 2000000 in
theorem rscvalid_any (r:Rsc) (hr:RscOk r):AFn Tryz.prog 54 0 [.agg (rscC r)] mt (.base (.bool true)) mt:=by
 refine AFn.eq Tryz.func54 rfl rfl (Nat.le_of_ble_eq_true rfl) ?_
 have hof:=of_any r (by have:=hr.al;omega) (by have:=hr.nl;omega)
 obtain ⟨ra,rai,ral,rn,rni,rnl⟩:=hr
 obtain ⟨ad,ns⟩:=r
 dsimp only at ra rai ral rn rni rnl
 have hcn:=cnSpan_any ns 132 fok132 (fun _=>false) (fun z hz=>valid1_ok z (rni z hz)) (by omega)
 have hcf:ns.any (fun _=>false)=false:=by
  rw [List.any_eq_false];intro x _;simp
 rw [hcf] at hcn
 have hvA:=validA_any ad ra rai ral
 have hvN:=validN_any ns rn rni rnl
 unfold rscC at hof ⊢
 dsimp only at hof ⊢
 refine Wq<|qW 0 2 rfl<|qC rfl<|qA rfl<|Nl<|Wq<|Wq<|qW 6 10 rfl<|qF rfl ty46 rfl<|qL rfl ty43 rfl<|qH rfl ty43<|qM rfl<|Nl<|Wb<|W.rename [(0,0)] 1 (by decide) ?_ ?_ (W.loop_ind (α:=Nat) (fun x=>ad.length - x) 1 (fun x=>up (up (up (up mt 1 (some (.own 0 0))) 7 (some (.isl (rngsC ad) ad.length))) 8 (some (.base (.int .i64 (ad.length:Int))))) 9 (some (.base (.int .i64 (x:Int))))) (fun x=>up mt 0 (some ([.isl (rngsC ad) ad.length,.isl (spnsC ns) ns.length]))) (fun x=>x≤ad.length) 0 (show 0≤ad.length from Nat.zero_le _) ?_)
 ·exact aR (aR (aR (aI aM)))
 ·exact aU (kR rfl) aM
 rintro k hIA ihA
 try (dsimp only at hIA)
 try dsimp only
 obtain hk:=hIA
 by_cases hc:k < ad.length
 ·have g1:decide ((k:Int) < (ad.length:Int))=true:=decide_eq_true (by omega)
  have hkk:(k:Int) + 1=((k + 1:Nat):Int):=by omega
  have hut:=rng_tk' hc
  have hui:=rai ad[k] (List.getElem_mem hc)
  obtain ⟨u,hu⟩:∃ u,ad[k]=u:=⟨_,rfl⟩
  rw [hu] at hut hui
  obtain ⟨f1,f2⟩:=adOf_ok hui.b1.1 hui.b1.2
  obtain ⟨t1,t2⟩:=adOf_ok hui.b2.1 hui.b2.2
  have hv1:=avalid_any (adOf u.1)
  have hv2:=avalid_any (adOf u.2)
  rw [f1.val] at hv1
  rw [t1.val] at hv2
  have d1:((adOf u.1).v6 != (adOf u.2).v6)=false:=by rw [plVA hui.b1,plVA hui.b2,hui.1.2];simp
  refine Wq<|qW 14 15 rfl<|qK rfl<|Nl<|Wq<|Wt rfl ‹_›<|Wu<|Wq<|Wb<|Wq<|qW 19 23 rfl<|qJ rfl rfl ty43 ty80 (by omega)<|Od rfl rfl (Lg rfl rfl ty80 rfl hut)<|qB rfl ty80<|qS rfl ty80 (Sl rfl) rfl<|Nl<|Wq<|qW 27 46 rfl<|qF rfl ty80 rfl<|qG rfl ty36 rfl (Tl rfl)<|qY rfl (hv1) fok117 rfl<|qO rfl<|qM rfl<|gF rfl rfl ty80 rfl<|gG rfl rfl ty36 rfl (Tl rfl)<|gY rfl rfl (hv2) fok117 rfl<|gO rfl rfl<|qP rfl rfl rfl<|qM rfl<|gF rfl rfl ty80 rfl<|gF rfl rfl ty36 rfl<|gL rfl rfl ty4 rfl<|gF rfl rfl ty80 rfl<|gF rfl rfl ty36 rfl<|gL rfl rfl ty4 rfl<|qU rfl rfl rfl (LO.neq_bool rfl rfl rfl ty4)<|qP rfl rfl rfl<|Nl<|Wo rfl ‹_›<|Wu<|qW 55 57 rfl<|qZ rfl (iW _ (by omega))<|qM rfl<|Nl ?_
  rw [hkk]
  refine WL.rename [(0,0)] 1 (by decide) ?_ ?_ (ihA (k + 1) (show ad.length - (k + 1) < ad.length - k from by omega) (show (k + 1)≤ad.length from hc))
  ·exact aR (aR (aR (aI aM)))
  ·exact aU (kR rfl) aM
 ·have g1:decide ((k:Int) < (ad.length:Int))=false:=decide_eq_false (by omega)
  have d1:decide ((ad.length:Int)≤256)=true:=decide_eq_true (by omega)
  have d2:decide ((ns.length:Int)≤256)=true:=decide_eq_true (by omega)
  clear ihA
  refine Wq<|qW 14 15 rfl<|qK rfl<|Nl<|Wq<|Wo rfl ‹_›<|Wx<|Wq<|Wq<|qW 61 64 rfl<|qF rfl ty46 rfl<|qL rfl ty44 rfl<|qY rfl (hcn) fok47 rfl<|Nl<|Wo rfl rfl<|Wu<|Wq<|qW 73 77 rfl<|qG rfl ty46 rfl (Tl rfl)<|qY rfl (hof) fok50 rfl<|qB rfl ty130<|qS rfl ty130 (Sl rfl) rfl<|Nl<|Wq<|qW 81 104 rfl<|qF rfl ty46 rfl<|qL rfl ty43 rfl<|qH rfl ty43<|qLe rfl<|qM rfl<|gF rfl ‹_› ty46 rfl<|gL rfl ‹_› ty44 rfl<|gH rfl ‹_› ty44<|gLe rfl ‹_›<|qT rfl ‹_› rfl<|qM rfl<|qU rfl ‹_› rfl (LO.glob 0 gA_raw rfl rfl (Lg rfl rfl ty134 rfl gA_tk))<|gF rfl ‹_› ty130 rfl<|gL rfl ‹_› ty127 rfl<|gY rfl ‹_› (hvA) fok133 rfl<|qT rfl ‹_› rfl<|qM rfl<|qU rfl rfl rfl (LO.glob 1 gN_raw rfl rfl (Lg rfl rfl ty138 rfl gN_tk))<|gF rfl rfl ty130 rfl<|gL rfl rfl ty128 rfl<|gY rfl rfl (hvN) fok134 rfl<|qT rfl rfl rfl<|qA rfl<|Nl<|Wz ⟨.inl rfl,_,mt,(Rc (Rt0 rfl) Rv),aM,?_⟩
  exact ⟨rfl,rfl⟩
theorem has1_any (p:Pre) (hp:PreOk p) (u:Int × Int) (hu:InF u):AFn Tryz.prog 70 0 [.agg (rngC u),.imm (preC p) 0] mt (.base (.bool (decide (u.1≤(plP p).1) && decide ((plP p).2≤u.2)))) mt:=by
 refine AFn.eq Tryz.func70 rfl rfl (Nat.le_of_ble_eq_true rfl) ?_
 have hlast:=plast_ok p hp
 obtain ⟨q1,q2,q3,q4,q5⟩:=hp.pl
 have hc1:=acmp_pl u.1 (plP p).1 hu.b1 q1.b1
 have hc2:=acmp_pl (plP p).2 u.2 q1.b2 hu.b2
 rw [q3] at hc1
 by_cases h1:u.1≤(plP p).1
 ·have d1:decide (cmpI u.1 (plP p).1≤0)=true:=by rw [cmpI_le];exact decide_eq_true h1
  rw [decide_eq_true h1,Bool.true_and,← cmpI_le]
  refine Wq<|qW 0 2 rfl<|qC rfl<|qA rfl<|Nl<|Wq<|Wd 6 21 (by decide) rfl mixed rfl<|qF rfl ty80 rfl<|qG rfl ty36 rfl (Tl rfl)<|qI rfl ty38 rfl<|Od rfl rfl (Lg rfl rfl ty36 rfl (Tl rfl))<|qY rfl (hc1) fok55 rfl<|qLe rfl<|qM rfl<|qU rfl ‹_› rfl (Lg rfl rfl ty38 rfl (Tl rfl))<|gY rfl ‹_› (hlast) fok46 rfl<|gF rfl ‹_› ty80 rfl<|gG rfl ‹_› ty36 rfl (Tl rfl)<|gY rfl ‹_› (hc2) fok55 rfl<|gLe rfl ‹_›<|qT rfl ‹_› rfl<|qA rfl<|Nl ⟨by kernel_rfl,(Wz ⟨.inl rfl,_,mt,(Rc (Rt0 rfl) Rv),aM,?_⟩)⟩
  exact ⟨rfl,rfl⟩
 ·have d1:decide (cmpI u.1 (plP p).1≤0)=false:=by rw [cmpI_le];exact decide_eq_false h1
  rw [decide_eq_false h1,Bool.false_and]
  refine Wq<|qW 0 2 rfl<|qC rfl<|qA rfl<|Nl<|Wq<|Wd 6 21 (by decide) rfl mixed rfl<|qF rfl ty80 rfl<|qG rfl ty36 rfl (Tl rfl)<|qI rfl ty38 rfl<|Od rfl rfl (Lg rfl rfl ty36 rfl (Tl rfl))<|qY rfl (hc1) fok55 rfl<|qLe rfl<|qM rfl<|qD rfl ‹_› rfl<|qD rfl ‹_› rfl<|qD rfl ‹_› rfl<|qD rfl ‹_› rfl<|qD rfl ‹_› rfl<|qD rfl ‹_› rfl<|qP rfl ‹_› rfl<|qA rfl<|Nl ⟨by kernel_rfl,(Wz ⟨.inl rfl,_,mt,(Rc (Rt0 rfl) Rv),aM,?_⟩)⟩
  exact ⟨rfl,rfl⟩
theorem phas_any (r:Rsc) (hr:RscOk r) (p:Pre) (hp:PreOk p):AFn Tryz.prog 20 0 [.agg (rscC r),.agg (preC p)] mt (.base (.bool (hasR r.ad (plP p).1 (plP p).2))) mt:=by
 refine AFn.eq Tryz.func20 rfl rfl (Nat.le_of_ble_eq_true rfl) ?_
 obtain ⟨_,rai,ral,_,_,_⟩:=hr
 obtain ⟨ad,ns⟩:=r
 dsimp only at rai ral
 have hcn:=cnRange_any ad 70 [.imm (preC p) 0] rfl rfl fok70 _ (fun z hz=>has1_any p hp z (rai z hz)) (by omega)
 unfold rscC hasR
 dsimp only
 refine Wq<|qW 0 3 rfl<|qC rfl<|qC rfl<|qA rfl<|Nl<|W.frzo (t:=3) rfl rfl rfl<|Wq<|qW 7 12 rfl<|qF rfl ty46 rfl<|qL rfl ty43 rfl<|Od rfl rfl (LO.makeClo (cs:=[.imm (preC p) 0]) rfl rfl rfl)<|qY rfl (hcn) fok69 rfl<|qA rfl<|Nl<|Wz ⟨.inl rfl,_,mt,(Rc (Rt0 rfl) Rv),aM,?_⟩
 exact ⟨rfl,rfl⟩
end Go.Proofs.YtbfnfgpjgdbmeaaGreatDoor
