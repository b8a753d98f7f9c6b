/-
  The longer way of the sort: parts of a list divided by an object.
-/
import Derived.Test.YtbfnfgpjgdbmeaaGreatDoorNs
import Derived.Test.YtbfnfgpjgdbmeaaGreatDoorMab
namespace Go.Proofs.YtbfnfgpjgdbmeaaGreatDoor
open Go.RowKit
set_option maxHeartbeats 8000000 in
theorem parteq_any (l:List ObjR) (a b p:Nat) (_hap:a≤p) (hpb:p < b) (hab:a + 1 < b) (hb:b≤l.length) (hl:l.length≤1000):∃ v H',AFn Tryz.prog 218 1 [.osl 0 0 l.length 6,.base (.int .i64 ((a:Nat):Int)),.base (.int .i64 ((b:Nat):Int)),.base (.int .i64 ((p:Nat):Int)),cmpFn] (up mt 0 (some (objsC l))) v H'∧∃ (r:Nat) (m:List ObjR),(a + 1≤r∧r≤b∧SameO m l)∧v=.base (.int .i64 ((r:Nat):Int))∧H'=(up mt 0 (some (objsC m))):=by
 refine AFn.ex Tryz.func218 rfl rfl (Nat.le_of_ble_eq_true rfl) ?_
 unfold cmpFn
 obtain ⟨m,hme⟩:∃ m,l=m:=⟨_,rfl⟩
 have hm:SameO m l:=by rw [hme];exact SameO.refl m
 have hml:=hm.len
 have hki:a < m.length:=by omega
 have hkj:p < m.length:=by omega
 have hal0:a < l.length:=by omega
 have hpl0:p < l.length:=by omega
 have hsw:=hm.swp (i:=a) (j:=p) hki hkj
 have hti:=objs_tk0 hki
 have htj:=objs_tk0 hkj
 have hs1:=objs_sp (l:=m) (i:=a) m[p] hki
 have hs2:=objs_sp (l:=m.set a m[p]) (i:=p) m[a] (by simpa using hkj)
 generalize m[a]=pp at hsw hti hs2
 generalize m[p]=qq at hsw htj hs1 hs2
 rw [show objsC l=objsC m from by rw [hme]]
 refine Wq<|qW 1 2 rfl<|qA rfl<|Nl<|Wq<|Wd 6 22 (by decide) rfl mixed rfl<|qM rfl<|qM rfl<|qM rfl<|qM rfl<|qM rfl<|qM rfl<|Od rfl rfl (Ia rfl rfl rfl rfl ty30 ty40 (by omega))<|qG rfl ty40 rfl htj<|qM rfl<|qM rfl<|Od rfl rfl (Ia rfl rfl rfl rfl ty30 ty40 (by omega))<|qG rfl ty40 rfl hti<|Od rfl rfl (Ia rfl rfl rfl rfl ty30 ty40 (by omega))<|qS rfl ty40 hs1 rfl<|Od rfl rfl (Ia rfl rfl rfl rfl ty30 ty40 (by omega))<|qS rfl ty40 hs2 rfl<|Nl ⟨by kernel_rfl,(Wq<|qW 26 32 rfl<|qM rfl<|qZ rfl (iW _ (by omega))<|qM rfl<|Od rfl rfl (LO.sub_in rfl rfl rfl (iW _ (by omega)))<|qA rfl<|qA rfl<|Nl ?_)⟩
 rw [show (a:Int) + 1=((a + 1:Nat):Int) from by omega,show (b:Int) - 1=((b - 1:Nat):Int) from by omega]
 refine Wq<|Wb<|W.rename [(0,0)] 1 (by decide) ?_ ?_ (W.loop_ind (α:=Nat × Nat × List ObjR) (fun x=>b + x.2.1 - x.1) 1 (fun x=>up (up (up (up (up mt 0 (some (.osl 0 0 l.length 6))) 1 (some (.base (.int .i64 ((a:Nat):Int))))) 4 (some (.base (.func (.func 88) #[] #[])))) 11 (some (.base (.int .i64 ((x.1:Nat):Int))))) 12 (some (.base (.int .i64 ((x.2.1:Nat):Int))))) (fun x=>up mt 0 (some (objsC x.2.2))) (fun x=>(a + 1≤x.1∧x.1≤b)∧(a≤x.2.1∧x.2.1 < b)∧SameO x.2.2 l) ((a + 1),(b - 1),((m.set a qq).set p pp)) (show (a + 1≤(a + 1)∧(a + 1)≤b)∧(a≤(b - 1)∧(b - 1) < b)∧SameO ((m.set a qq).set p pp) l from ⟨⟨by omega,by omega⟩,⟨by omega,by omega⟩,hsw⟩) ?_)
 ·exact aR (aR (aR (aR (aI aM))))
 ·exact aU (kP rfl (objsC_pure _)) aM
 rintro ⟨i0,j0,m⟩ hIA ihA
 try (dsimp only at hIA)
 try dsimp only
 clear hm hml hsw hti htj hs1 hs2 hki hkj hme
 obtain ⟨⟨hi01,hi02⟩,⟨hj01,hj02⟩,hm⟩:=hIA
 have hml:=hm.len
 refine Wb<|Wq<|Wb<|W.rename [(0,0)] 1 (by decide) ?_ ?_ (W.loop_ind (α:=Nat) (fun x=>b - x) 1 (fun x=>up (up (up (up (up mt 0 (some (.osl 0 0 l.length 6))) 1 (some (.base (.int .i64 ((a:Nat):Int))))) 4 (some (.base (.func (.func 88) #[] #[])))) 11 (some (.base (.int .i64 ((x:Nat):Int))))) 12 (some (.base (.int .i64 ((j0:Nat):Int))))) (fun x=>up mt 0 (some (objsC m))) (fun x=>i0≤x∧x≤b) i0 (show i0≤i0∧i0≤b from ⟨Nat.le_refl _,by omega⟩) ?_)
 ·exact aR (aR (aR (aR (aI aM))))
 ·exact aU (kP rfl (objsC_pure _)) aM
 rintro i hIAi ihAi
 try (dsimp only at hIAi)
 try dsimp only
 obtain ⟨hi1,hi2⟩:=hIAi
 refine Wq<|W.seqJ (α:=Bool) 1 (fun x=>up (up (up (up (up (up mt 0 (some (.osl 0 0 l.length 6))) 1 (some (.base (.int .i64 ((a:Nat):Int))))) 4 (some (.base (.func (.func 88) #[] #[])))) 11 (some (.base (.int .i64 ((i:Nat):Int))))) 12 (some (.base (.int .i64 ((j0:Nat):Int))))) 47 (some (.base (.bool x)))) (fun x=>up mt 0 (some (objsC m))) (fun x=>x=true→i≤j0) ?_ ?_
 rotate_left
 rintro bb hIAic
 try (dsimp only at hIAic)
 try dsimp only
 rotate_right
 ·
  by_cases hc:i≤j0
  ·have g1:decide ((i:Int)≤(j0:Int))=true:=decide_eq_true (by omega)
   have hxl:i < m.length:=by omega
   have hxl2:i < l.length:=by omega
   have hal:a < m.length:=by omega
   have hal2:a < l.length:=by omega
   have htx:=objs_tk0 hxl
   have hta:=objs_tk0 hal
   have hcm:=compare_any m[a] m[i]
   generalize m[i]=xx at htx hcm
   generalize m[a]=aa at hta hcm
   refine Wd 36 53 (by decide) rfl mixed rfl<|qM rfl<|qM rfl<|qLe rfl<|qM rfl<|gM rfl ‹_›<|gM rfl ‹_›<|gM rfl ‹_›<|qU rfl ‹_› rfl (Ia rfl rfl rfl rfl ty30 ty40 (by omega))<|gG rfl ‹_› ty40 rfl hta<|gM rfl ‹_›<|gM rfl ‹_›<|qU rfl ‹_› rfl (Ia rfl rfl rfl rfl ty30 ty40 (by omega))<|gG rfl ‹_› ty40 rfl htx<|qU rfl ‹_› rfl (LO.callF (fr:=[]) rfl rfl hcm fok88 (.cons rfl (.pure rfl) (.cons rfl (.pure rfl) .nil)) rfl)<|gK rfl ‹_›<|gO rfl ‹_›<|qT rfl ‹_› rfl<|Nl ⟨by kernel_rfl,?_⟩
   intro yJ KJ hJ
   refine W.rename [(0,0)] 1 (by decide) ?_ ?_ (hJ ((!decide (cmpO aa xx < 0))) (show ((!decide (cmpO aa xx < 0)))=true→i≤j0 from fun _=>hc))
   ·exact aR (aR (aR (aR (aR (aI aM)))))
   ·exact aU (kP rfl (objsC_pure _)) aM
  ·have g1:decide ((i:Int)≤(j0:Int))=false:=decide_eq_false (by omega)
   refine Wd 36 53 (by decide) rfl mixed rfl<|qM rfl<|qM rfl<|qLe rfl<|qM rfl<|qD rfl ‹_› rfl<|qD rfl ‹_› rfl<|qD rfl ‹_› rfl<|qD rfl ‹_› rfl<|qD rfl ‹_› rfl<|qD rfl ‹_› rfl<|qD rfl ‹_› rfl<|qD rfl ‹_› rfl<|qD rfl ‹_› rfl<|qD rfl ‹_› rfl<|qD rfl ‹_› rfl<|qD rfl ‹_› rfl<|qP rfl ‹_› rfl<|Nl ⟨by kernel_rfl,?_⟩
   intro yJ KJ hJ
   refine W.rename [(0,0)] 1 (by decide) ?_ ?_ (hJ false (show false=true→i≤j0 from fun h=>absurd h (by simp)))
   ·exact aR (aR (aR (aR (aR (aI aM)))))
   ·exact aU (kP rfl (objsC_pure _)) aM
 cases hbb:bb with
 | true =>
  have hc:=hIAic hbb
  refine Wt rfl rfl<|Wu<|Wb<|qW 57 60 rfl<|qM rfl<|qZ rfl (iW _ (by omega))<|qA rfl<|Nl ?_
  rw [show (i:Int) + 1=((i + 1:Nat):Int) from by omega]
  refine WL.rename [(0,0)] 1 (by decide) ?_ ?_ (ihAi (i + 1) (show b - (i + 1) < b - i from by omega) (show i0≤(i + 1)∧(i + 1)≤b from ⟨by omega,by omega⟩))
  ·exact aR (aR (aR (aR (aI aM))))
  ·exact aU (kP rfl (objsC_pure _)) aM
 | false =>
  clear ihAi hIAic
  refine Wo rfl rfl<|Wx<|Wq<|Wb<|W.rename [(0,0)] 1 (by decide) ?_ ?_ (W.loop_ind (α:=Nat) (fun x=>x) 1 (fun x=>up (up (up (up (up mt 0 (some (.osl 0 0 l.length 6))) 1 (some (.base (.int .i64 ((a:Nat):Int))))) 4 (some (.base (.func (.func 88) #[] #[])))) 11 (some (.base (.int .i64 ((i:Nat):Int))))) 12 (some (.base (.int .i64 ((x:Nat):Int))))) (fun x=>up mt 0 (some (objsC m))) (fun x=>a≤x∧x≤j0) j0 (show a≤j0∧j0≤j0 from ⟨by omega,Nat.le_refl _⟩) ?_)
  ·exact aR (aR (aR (aR (aI aM))))
  ·exact aU (kP rfl (objsC_pure _)) aM
  rintro j hIAj ihAj
  try (dsimp only at hIAj)
  try dsimp only
  obtain ⟨hj1,hj2⟩:=hIAj
  refine Wq<|W.seqJ (α:=Bool) 1 (fun x=>up (up (up (up (up (up mt 0 (some (.osl 0 0 l.length 6))) 1 (some (.base (.int .i64 ((a:Nat):Int))))) 4 (some (.base (.func (.func 88) #[] #[])))) 11 (some (.base (.int .i64 ((i:Nat):Int))))) 12 (some (.base (.int .i64 ((j:Nat):Int))))) 65 (some (.base (.bool x)))) (fun x=>up mt 0 (some (objsC m))) (fun x=>x=true→i≤j) ?_ ?_
  rotate_left
  rintro bb hIAjc
  try (dsimp only at hIAjc)
  try dsimp only
  rotate_right
  ·
   by_cases hc:i≤j
   ·have g1:decide ((i:Int)≤(j:Int))=true:=decide_eq_true (by omega)
    have hxl:j < m.length:=by omega
    have hxl2:j < l.length:=by omega
    have hal:a < m.length:=by omega
    have hal2:a < l.length:=by omega
    have htx:=objs_tk0 hxl
    have hta:=objs_tk0 hal
    have hcm:=compare_any m[a] m[j]
    generalize m[j]=xx at htx hcm
    generalize m[a]=aa at hta hcm
    refine Wd 64 80 (by decide) rfl mixed rfl<|qM rfl<|qM rfl<|qLe rfl<|qM rfl<|gM rfl ‹_›<|gM rfl ‹_›<|gM rfl ‹_›<|qU rfl ‹_› rfl (Ia rfl rfl rfl rfl ty30 ty40 (by omega))<|gG rfl ‹_› ty40 rfl hta<|gM rfl ‹_›<|gM rfl ‹_›<|qU rfl ‹_› rfl (Ia rfl rfl rfl rfl ty30 ty40 (by omega))<|gG rfl ‹_› ty40 rfl htx<|qU rfl ‹_› rfl (LO.callF (fr:=[]) rfl rfl hcm fok88 (.cons rfl (.pure rfl) (.cons rfl (.pure rfl) .nil)) rfl)<|gK rfl ‹_›<|qT rfl ‹_› rfl<|Nl ⟨by kernel_rfl,?_⟩
    intro yJ KJ hJ
    refine W.rename [(0,0)] 1 (by decide) ?_ ?_ (hJ (decide (cmpO aa xx < 0)) (show (decide (cmpO aa xx < 0))=true→i≤j from fun _=>hc))
    ·exact aR (aR (aR (aR (aR (aI aM)))))
    ·exact aU (kP rfl (objsC_pure _)) aM
   ·have g1:decide ((i:Int)≤(j:Int))=false:=decide_eq_false (by omega)
    refine Wd 64 80 (by decide) rfl mixed rfl<|qM rfl<|qM rfl<|qLe rfl<|qM rfl<|qD rfl ‹_› rfl<|qD rfl ‹_› rfl<|qD rfl ‹_› rfl<|qD rfl ‹_› rfl<|qD rfl ‹_› rfl<|qD rfl ‹_› rfl<|qD rfl ‹_› rfl<|qD rfl ‹_› rfl<|qD rfl ‹_› rfl<|qD rfl ‹_› rfl<|qD rfl ‹_› rfl<|qP rfl ‹_› rfl<|Nl ⟨by kernel_rfl,?_⟩
    intro yJ KJ hJ
    refine W.rename [(0,0)] 1 (by decide) ?_ ?_ (hJ false (show false=true→i≤j from fun h=>absurd h (by simp)))
    ·exact aR (aR (aR (aR (aR (aI aM)))))
    ·exact aU (kP rfl (objsC_pure _)) aM
  cases hbb:bb with
  | true =>
   have hc:=hIAjc hbb
   refine Wt rfl rfl<|Wu<|Wb<|qW 84 87 rfl<|qM rfl<|Od rfl rfl (LO.sub_in rfl rfl rfl (iW _ (by omega)))<|qA rfl<|Nl ?_
   rw [show (j:Int) - 1=((j - 1:Nat):Int) from by omega]
   refine WL.rename [(0,0)] 1 (by decide) ?_ ?_ (ihAj (j - 1) (show (j - 1) < j from by omega) (show a≤(j - 1)∧(j - 1)≤j0 from ⟨by omega,by omega⟩))
   ·exact aR (aR (aR (aR (aI aM))))
   ·exact aU (kP rfl (objsC_pure _)) aM
  | false =>
   clear ihAj hIAjc
   refine Wo rfl rfl<|Wx ?_
   by_cases hij:j < i
   ·have g5:decide ((i:Int) > (j:Int))=true:=decide_eq_true (by omega)
    clear ihA
    refine Wq<|Wq<|qW 91 94 rfl<|qM rfl<|qM rfl<|qGt rfl<|Nl<|Wt rfl ‹_›<|Wx<|Wq<|qW 132 134 rfl<|qM rfl<|qA rfl<|Nl<|Wz ⟨.inl rfl,_,(up mt 0 (some (objsC m))),(Rc (Rt0 rfl) Rv),(aU rfl aM),?_⟩
    exact ⟨i,m,⟨by omega,by omega,hm⟩,rfl,rfl⟩
   ·have g5:decide ((i:Int) > (j:Int))=false:=decide_eq_false (by omega)
    have hki:i < m.length:=by omega
    have hkj:j < m.length:=by omega
    have hil:i < l.length:=by omega
    have hjl:j < l.length:=by omega
    have hsw:=hm.swp (i:=i) (j:=j) hki hkj
    have hti:=objs_tk0 hki
    have htj:=objs_tk0 hkj
    have hs1:=objs_sp (l:=m) (i:=i) m[j] hki
    have hs2:=objs_sp (l:=m.set i m[j]) (i:=j) m[i] (by simpa using hkj)
    generalize m[i]=pp at hsw hti hs2
    generalize m[j]=qq at hsw htj hs1 hs2
    refine Wq<|Wq<|qW 91 94 rfl<|qM rfl<|qM rfl<|qGt rfl<|Nl<|Wo rfl ‹_›<|Wu<|Wq<|Wd 98 114 (by decide) rfl mixed rfl<|qM rfl<|qM rfl<|qM rfl<|qM rfl<|qM rfl<|qM rfl<|Od rfl rfl (Ia rfl rfl rfl rfl ty30 ty40 (by omega))<|qG rfl ty40 rfl htj<|qM rfl<|qM rfl<|Od rfl rfl (Ia rfl rfl rfl rfl ty30 ty40 (by omega))<|qG rfl ty40 rfl hti<|Od rfl rfl (Ia rfl rfl rfl rfl ty30 ty40 (by omega))<|qS rfl ty40 hs1 rfl<|Od rfl rfl (Ia rfl rfl rfl rfl ty30 ty40 (by omega))<|qS rfl ty40 hs2 rfl<|Nl ⟨by kernel_rfl,(Wq<|qW 118 121 rfl<|qM rfl<|qZ rfl (iW _ (by omega))<|qA rfl<|Nl ?_)⟩
    rw [show (i:Int) + 1=((i + 1:Nat):Int) from by omega]
    refine qW 125 128 rfl<|qM rfl<|Od rfl rfl (LO.sub_in rfl rfl rfl (iW _ (by omega)))<|qA rfl<|Nl ?_
    rw [show (j:Int) - 1=((j - 1:Nat):Int) from by omega]
    refine WL.rename [(0,0)] 1 (by decide) ?_ ?_ (ihA ((i + 1),(j - 1),((m.set i qq).set j pp)) (show b + (j - 1) - (i + 1) < b + j0 - i0 from by omega) (show (a + 1≤(i + 1)∧(i + 1)≤b)∧(a≤(j - 1)∧(j - 1) < b)∧SameO ((m.set i qq).set j pp) l from ⟨⟨by omega,by omega⟩,⟨by omega,by omega⟩,hsw⟩))
    ·exact aR (aR (aR (aR (aI aM))))
    ·exact aU (kP rfl (objsC_pure _)) aM
set_option maxHeartbeats 8000000 in
theorem part_any (l:List ObjR) (a b p:Nat) (_hap:a≤p) (hpb:p < b) (hab:a + 1 < b) (hb:b≤l.length) (hl:l.length≤1000):∃ v H',AFn Tryz.prog 219 1 [.osl 0 0 l.length 6,.base (.int .i64 ((a:Nat):Int)),.base (.int .i64 ((b:Nat):Int)),.base (.int .i64 ((p:Nat):Int)),cmpFn] (up mt 0 (some (objsC l))) v H'∧∃ (r:Nat) (m:List ObjR) (e:Bool),(a≤r∧r < b∧SameO m l)∧v=.tup [.base (.int .i64 ((r:Nat):Int)),.base (.bool e)]∧H'=(up mt 0 (some (objsC m))):=by
 refine AFn.ex Tryz.func219 rfl rfl (Nat.le_of_ble_eq_true rfl) ?_
 unfold cmpFn
 obtain ⟨m,hme⟩:∃ m,l=m:=⟨_,rfl⟩
 have hm:SameO m l:=by rw [hme];exact SameO.refl m
 have hml:=hm.len
 have hki:a < m.length:=by omega
 have hkj:p < m.length:=by omega
 have hal0:a < l.length:=by omega
 have hpl0:p < l.length:=by omega
 have hsw:=hm.swp (i:=a) (j:=p) hki hkj
 have hti:=objs_tk0 hki
 have htj:=objs_tk0 hkj
 have hs1:=objs_sp (l:=m) (i:=a) m[p] hki
 have hs2:=objs_sp (l:=m.set a m[p]) (i:=p) m[a] (by simpa using hkj)
 generalize m[a]=pp at hsw hti hs2
 generalize m[p]=qq at hsw htj hs1 hs2
 rw [show objsC l=objsC m from by rw [hme]]
 refine Wq<|qW 1 3 rfl<|qA rfl<|qA rfl<|Nl<|Wq<|Wd 7 23 (by decide) rfl mixed rfl<|qM rfl<|qM rfl<|qM rfl<|qM rfl<|qM rfl<|qM rfl<|Od rfl rfl (Ia rfl rfl rfl rfl ty30 ty40 (by omega))<|qG rfl ty40 rfl htj<|qM rfl<|qM rfl<|Od rfl rfl (Ia rfl rfl rfl rfl ty30 ty40 (by omega))<|qG rfl ty40 rfl hti<|Od rfl rfl (Ia rfl rfl rfl rfl ty30 ty40 (by omega))<|qS rfl ty40 hs1 rfl<|Od rfl rfl (Ia rfl rfl rfl rfl ty30 ty40 (by omega))<|qS rfl ty40 hs2 rfl<|Nl ⟨by kernel_rfl,(Wq<|qW 27 33 rfl<|qM rfl<|qZ rfl (iW _ (by omega))<|qM rfl<|Od rfl rfl (LO.sub_in rfl rfl rfl (iW _ (by omega)))<|qA rfl<|qA rfl<|Nl ?_)⟩
 rw [show (a:Int) + 1=((a + 1:Nat):Int) from by omega,show (b:Int) - 1=((b - 1:Nat):Int) from by omega]
 obtain ⟨mm,hmm⟩:∃ mm,(m.set a qq).set p pp=mm:=⟨_,rfl⟩
 rw [hmm] at hsw ⊢
 clear hm hml hti htj hs1 hs2 hmm hki hkj hme
 have hm:SameO mm l:=hsw
 have hml:=hm.len
 obtain ⟨jb,hjb⟩:∃ j,b - 1=j:=⟨_,rfl⟩
 rw [hjb]
 clear hsw
 refine Wq<|Wb<|W.rename [(0,0)] 1 (by decide) ?_ ?_ (W.loop_ind (α:=Nat) (fun x=>b - x) 1 (fun x=>up (up (up (up (up mt 0 (some (.osl 0 0 l.length 6))) 1 (some (.base (.int .i64 ((a:Nat):Int))))) 4 (some (.base (.func (.func 88) #[] #[])))) 12 (some (.base (.int .i64 ((x:Nat):Int))))) 13 (some (.base (.int .i64 ((jb:Nat):Int))))) (fun x=>up mt 0 (some (objsC mm))) (fun x=>a + 1≤x∧x≤b) (a + 1) (show a + 1≤(a + 1)∧(a + 1)≤b from ⟨Nat.le_refl _,by omega⟩) ?_)
 ·exact aR (aR (aR (aR (aI aM))))
 ·exact aU (kP rfl (objsC_pure _)) aM
 rintro i hIA ihA
 try (dsimp only at hIA)
 try dsimp only
 obtain ⟨hi1,hi2⟩:=hIA
 refine Wq<|W.seqJ (α:=Bool) 1 (fun x=>up (up (up (up (up (up mt 0 (some (.osl 0 0 l.length 6))) 1 (some (.base (.int .i64 ((a:Nat):Int))))) 4 (some (.base (.func (.func 88) #[] #[])))) 12 (some (.base (.int .i64 ((i:Nat):Int))))) 13 (some (.base (.int .i64 ((jb:Nat):Int))))) 47 (some (.base (.bool x)))) (fun x=>up mt 0 (some (objsC mm))) (fun x=>x=true→i≤jb) ?_ ?_
 rotate_left
 rintro bb hIAc
 try (dsimp only at hIAc)
 try dsimp only
 rotate_right
 ·
  by_cases hc:i≤jb
  ·have g1:decide ((i:Int)≤(jb:Int))=true:=decide_eq_true (by omega)
   have hxl:i < mm.length:=by omega
   have hxl2:i < l.length:=by omega
   have hal:a < mm.length:=by omega
   have hal2:a < l.length:=by omega
   have htx:=objs_tk0 hxl
   have hta:=objs_tk0 hal
   have hcm:=compare_any mm[i] mm[a]
   generalize mm[i]=xx at htx hcm
   generalize mm[a]=aa at hta hcm
   refine Wd 37 53 (by decide) rfl mixed rfl<|qM rfl<|qM rfl<|qLe rfl<|qM rfl<|gM rfl ‹_›<|gM rfl ‹_›<|gM rfl ‹_›<|qU rfl ‹_› rfl (Ia rfl rfl rfl rfl ty30 ty40 (by omega))<|gG rfl ‹_› ty40 rfl htx<|gM rfl ‹_›<|gM rfl ‹_›<|qU rfl ‹_› rfl (Ia rfl rfl rfl rfl ty30 ty40 (by omega))<|gG rfl ‹_› ty40 rfl hta<|qU rfl ‹_› rfl (LO.callF (fr:=[]) rfl rfl hcm fok88 (.cons rfl (.pure rfl) (.cons rfl (.pure rfl) .nil)) rfl)<|gK rfl ‹_›<|qT rfl ‹_› rfl<|Nl ⟨by kernel_rfl,?_⟩
   intro yJ KJ hJ
   refine W.rename [(0,0)] 1 (by decide) ?_ ?_ (hJ (decide (cmpO xx aa < 0)) (show (decide (cmpO xx aa < 0))=true→i≤jb from fun _=>hc))
   ·exact aR (aR (aR (aR (aR (aI aM)))))
   ·exact aU (kP rfl (objsC_pure _)) aM
  ·have g1:decide ((i:Int)≤(jb:Int))=false:=decide_eq_false (by omega)
   refine Wd 37 53 (by decide) rfl mixed rfl<|qM rfl<|qM rfl<|qLe rfl<|qM rfl<|qD rfl ‹_› rfl<|qD rfl ‹_› rfl<|qD rfl ‹_› rfl<|qD rfl ‹_› rfl<|qD rfl ‹_› rfl<|qD rfl ‹_› rfl<|qD rfl ‹_› rfl<|qD rfl ‹_› rfl<|qD rfl ‹_› rfl<|qD rfl ‹_› rfl<|qD rfl ‹_› rfl<|qP rfl ‹_› rfl<|Nl ⟨by kernel_rfl,?_⟩
   intro yJ KJ hJ
   refine W.rename [(0,0)] 1 (by decide) ?_ ?_ (hJ false (show false=true→i≤jb from fun h=>absurd h (by simp)))
   ·exact aR (aR (aR (aR (aR (aI aM)))))
   ·exact aU (kP rfl (objsC_pure _)) aM
 cases hbb:bb with
 | true =>
  have hc:=hIAc hbb
  refine Wt rfl rfl<|Wu<|Wb<|qW 57 60 rfl<|qM rfl<|qZ rfl (iW _ (by omega))<|qA rfl<|Nl ?_
  rw [show (i:Int) + 1=((i + 1:Nat):Int) from by omega]
  refine WL.rename [(0,0)] 1 (by decide) ?_ ?_ (ihA (i + 1) (show b - (i + 1) < b - i from by omega) (show a + 1≤(i + 1)∧(i + 1)≤b from ⟨by omega,by omega⟩))
  ·exact aR (aR (aR (aR (aI aM))))
  ·exact aU (kP rfl (objsC_pure _)) aM
 | false =>
  clear ihA hIAc
  refine Wo rfl rfl<|Wx<|Wq<|Wb<|W.rename [(0,0)] 1 (by decide) ?_ ?_ (W.loop_ind (α:=Nat) (fun x=>x) 1 (fun x=>up (up (up (up (up mt 0 (some (.osl 0 0 l.length 6))) 1 (some (.base (.int .i64 ((a:Nat):Int))))) 4 (some (.base (.func (.func 88) #[] #[])))) 12 (some (.base (.int .i64 ((i:Nat):Int))))) 13 (some (.base (.int .i64 ((x:Nat):Int))))) (fun x=>up mt 0 (some (objsC mm))) (fun x=>a≤x∧x≤jb) jb (show a≤jb∧jb≤jb from ⟨by omega,Nat.le_refl _⟩) ?_)
  ·exact aR (aR (aR (aR (aI aM))))
  ·exact aU (kP rfl (objsC_pure _)) aM
  rintro j hIB ihB
  try (dsimp only at hIB)
  try dsimp only
  obtain ⟨hj1,hj2⟩:=hIB
  refine Wq<|W.seqJ (α:=Bool) 1 (fun x=>up (up (up (up (up (up mt 0 (some (.osl 0 0 l.length 6))) 1 (some (.base (.int .i64 ((a:Nat):Int))))) 4 (some (.base (.func (.func 88) #[] #[])))) 12 (some (.base (.int .i64 ((i:Nat):Int))))) 13 (some (.base (.int .i64 ((j:Nat):Int))))) 66 (some (.base (.bool x)))) (fun x=>up mt 0 (some (objsC mm))) (fun x=>x=true→i≤j) ?_ ?_
  rotate_left
  rintro bb hIBc
  try (dsimp only at hIBc)
  try dsimp only
  rotate_right
  ·
   by_cases hc:i≤j
   ·have g1:decide ((i:Int)≤(j:Int))=true:=decide_eq_true (by omega)
    have hxl:j < mm.length:=by omega
    have hxl2:j < l.length:=by omega
    have hal:a < mm.length:=by omega
    have hal2:a < l.length:=by omega
    have htx:=objs_tk0 hxl
    have hta:=objs_tk0 hal
    have hcm:=compare_any mm[j] mm[a]
    generalize mm[j]=xx at htx hcm
    generalize mm[a]=aa at hta hcm
    refine Wd 64 81 (by decide) rfl mixed rfl<|qM rfl<|qM rfl<|qLe rfl<|qM rfl<|gM rfl ‹_›<|gM rfl ‹_›<|gM rfl ‹_›<|qU rfl ‹_› rfl (Ia rfl rfl rfl rfl ty30 ty40 (by omega))<|gG rfl ‹_› ty40 rfl htx<|gM rfl ‹_›<|gM rfl ‹_›<|qU rfl ‹_› rfl (Ia rfl rfl rfl rfl ty30 ty40 (by omega))<|gG rfl ‹_› ty40 rfl hta<|qU rfl ‹_› rfl (LO.callF (fr:=[]) rfl rfl hcm fok88 (.cons rfl (.pure rfl) (.cons rfl (.pure rfl) .nil)) rfl)<|gK rfl ‹_›<|gO rfl ‹_›<|qT rfl ‹_› rfl<|Nl ⟨by kernel_rfl,?_⟩
    intro yJ KJ hJ
    refine W.rename [(0,0)] 1 (by decide) ?_ ?_ (hJ ((!decide (cmpO xx aa < 0))) (show ((!decide (cmpO xx aa < 0)))=true→i≤j from fun _=>hc))
    ·exact aR (aR (aR (aR (aR (aI aM)))))
    ·exact aU (kP rfl (objsC_pure _)) aM
   ·have g1:decide ((i:Int)≤(j:Int))=false:=decide_eq_false (by omega)
    refine Wd 64 81 (by decide) rfl mixed rfl<|qM rfl<|qM rfl<|qLe rfl<|qM rfl<|qD rfl ‹_› rfl<|qD rfl ‹_› rfl<|qD rfl ‹_› rfl<|qD rfl ‹_› rfl<|qD rfl ‹_› rfl<|qD rfl ‹_› rfl<|qD rfl ‹_› rfl<|qD rfl ‹_› rfl<|qD rfl ‹_› rfl<|qD rfl ‹_› rfl<|qD rfl ‹_› rfl<|qD rfl ‹_› rfl<|qP rfl ‹_› rfl<|Nl ⟨by kernel_rfl,?_⟩
    intro yJ KJ hJ
    refine W.rename [(0,0)] 1 (by decide) ?_ ?_ (hJ false (show false=true→i≤j from fun h=>absurd h (by simp)))
    ·exact aR (aR (aR (aR (aR (aI aM)))))
    ·exact aU (kP rfl (objsC_pure _)) aM
  cases hbb:bb with
  | true =>
   have hc:=hIBc hbb
   refine Wt rfl rfl<|Wu<|Wb<|qW 85 88 rfl<|qM rfl<|Od rfl rfl (LO.sub_in rfl rfl rfl (iW _ (by omega)))<|qA rfl<|Nl ?_
   rw [show (j:Int) - 1=((j - 1:Nat):Int) from by omega]
   refine WL.rename [(0,0)] 1 (by decide) ?_ ?_ (ihB (j - 1) (show (j - 1) < j from by omega) (show a≤(j - 1)∧(j - 1)≤jb from ⟨by omega,by omega⟩))
   ·exact aR (aR (aR (aR (aI aM))))
   ·exact aU (kP rfl (objsC_pure _)) aM
  | false =>
   clear ihB hIBc
   refine Wo rfl rfl<|Wx ?_
   by_cases hij:j < i
   ·have g5:decide ((i:Int) > (j:Int))=true:=decide_eq_true (by omega)
    have hki:j < mm.length:=by omega
    have hkj:a < mm.length:=by omega
    have hsw:=hm.swp (i:=j) (j:=a) hki hkj
    have hti:=objs_tk0 hki
    have htj:=objs_tk0 hkj
    have hs1:=objs_sp (l:=mm) (i:=j) mm[a] hki
    have hs2:=objs_sp (l:=mm.set j mm[a]) (i:=a) mm[j] (by simpa using hkj)
    generalize mm[j]=pp at hsw hti hs2
    generalize mm[a]=qq at hsw htj hs1 hs2
    have hjl:j < l.length:=by omega
    have hal3:a < l.length:=by omega
    refine Wq<|Wq<|qW 92 95 rfl<|qM rfl<|qM rfl<|qGt rfl<|Nl<|Wt rfl ‹_›<|Wq<|Wd 99 115 (by decide) rfl mixed rfl<|qM rfl<|qM rfl<|qM rfl<|qM rfl<|qM rfl<|qM rfl<|Od rfl rfl (Ia rfl rfl rfl rfl ty30 ty40 (by omega))<|qG rfl ty40 rfl htj<|qM rfl<|qM rfl<|Od rfl rfl (Ia rfl rfl rfl rfl ty30 ty40 (by omega))<|qG rfl ty40 rfl hti<|Od rfl rfl (Ia rfl rfl rfl rfl ty30 ty40 (by omega))<|qS rfl ty40 hs1 rfl<|Od rfl rfl (Ia rfl rfl rfl rfl ty30 ty40 (by omega))<|qS rfl ty40 hs2 rfl<|Nl ⟨by kernel_rfl,(Wq<|qW 119 122 rfl<|qM rfl<|qA rfl<|qA rfl<|Nl<|Wz ⟨.inl rfl,_,(up mt 0 (some (objsC ((mm.set j qq).set a pp)))),(Rc (Rt0 rfl) (Rc (Rt0 rfl) Rv)),(aU rfl aM),?_⟩)⟩
    exact ⟨j,_,true,⟨by omega,by omega,hsw⟩,rfl,rfl⟩
   ·have g5:decide ((i:Int) > (j:Int))=false:=decide_eq_false (by omega)
    have hki:i < mm.length:=by omega
    have hkj:j < mm.length:=by omega
    have hil:i < l.length:=by omega
    have hjl:j < l.length:=by omega
    have hsw:=hm.swp (i:=i) (j:=j) hki hkj
    have hti:=objs_tk0 hki
    have htj:=objs_tk0 hkj
    have hs1:=objs_sp (l:=mm) (i:=i) mm[j] hki
    have hs2:=objs_sp (l:=mm.set i mm[j]) (i:=j) mm[i] (by simpa using hkj)
    generalize mm[i]=pp at hsw hti hs2
    generalize mm[j]=qq at hsw htj hs1 hs2
    refine Wq<|Wq<|qW 92 95 rfl<|qM rfl<|qM rfl<|qGt rfl<|Nl<|Wo rfl ‹_›<|Wu<|Wq<|Wd 126 142 (by decide) rfl mixed rfl<|qM rfl<|qM rfl<|qM rfl<|qM rfl<|qM rfl<|qM rfl<|Od rfl rfl (Ia rfl rfl rfl rfl ty30 ty40 (by omega))<|qG rfl ty40 rfl htj<|qM rfl<|qM rfl<|Od rfl rfl (Ia rfl rfl rfl rfl ty30 ty40 (by omega))<|qG rfl ty40 rfl hti<|Od rfl rfl (Ia rfl rfl rfl rfl ty30 ty40 (by omega))<|qS rfl ty40 hs1 rfl<|Od rfl rfl (Ia rfl rfl rfl rfl ty30 ty40 (by omega))<|qS rfl ty40 hs2 rfl<|Nl ⟨by kernel_rfl,(Wq<|qW 146 149 rfl<|qM rfl<|qZ rfl (iW _ (by omega))<|qA rfl<|Nl ?_)⟩
    rw [show (i:Int) + 1=((i + 1:Nat):Int) from by omega]
    refine Wq<|qW 153 156 rfl<|qM rfl<|Od rfl rfl (LO.sub_in rfl rfl rfl (iW _ (by omega)))<|qA rfl<|Nl ?_
    rw [show (j:Int) - 1=((j - 1:Nat):Int) from by omega]
    refine Wq<|Wb<|W.rename [(0,0)] 1 (by decide) ?_ ?_ (W.loop_ind (α:=Nat × Nat × List ObjR) (fun x=>b + x.2.1 - x.1) 1 (fun x=>up (up (up (up (up mt 0 (some (.osl 0 0 l.length 6))) 1 (some (.base (.int .i64 ((a:Nat):Int))))) 4 (some (.base (.func (.func 88) #[] #[])))) 12 (some (.base (.int .i64 ((x.1:Nat):Int))))) 13 (some (.base (.int .i64 ((x.2.1:Nat):Int))))) (fun x=>up mt 0 (some (objsC x.2.2))) (fun x=>(a + 1≤x.1∧x.1≤b)∧(a≤x.2.1∧x.2.1 < b)∧SameO x.2.2 l) ((i + 1),(j - 1),((mm.set i qq).set j pp)) (show (a + 1≤(i + 1)∧(i + 1)≤b)∧(a≤(j - 1)∧(j - 1) < b)∧SameO ((mm.set i qq).set j pp) l from ⟨⟨by omega,by omega⟩,⟨by omega,by omega⟩,hsw⟩) ?_)
    ·exact aR (aR (aR (aR (aI aM))))
    ·exact aU (kP rfl (objsC_pure _)) aM
    rintro ⟨i0,j0,m⟩ hIC ihC
    try (dsimp only at hIC)
    try dsimp only
    clear hm hml hsw hti htj hs1 hs2 hki hkj hil hjl
    obtain ⟨⟨hi01,hi02⟩,⟨hj01,hj02⟩,hm⟩:=hIC
    have hml:=hm.len
    refine Wb<|Wq<|Wb<|W.rename [(0,0)] 1 (by decide) ?_ ?_ (W.loop_ind (α:=Nat) (fun x=>b - x) 1 (fun x=>up (up (up (up (up mt 0 (some (.osl 0 0 l.length 6))) 1 (some (.base (.int .i64 ((a:Nat):Int))))) 4 (some (.base (.func (.func 88) #[] #[])))) 12 (some (.base (.int .i64 ((x:Nat):Int))))) 13 (some (.base (.int .i64 ((j0:Nat):Int))))) (fun x=>up mt 0 (some (objsC m))) (fun x=>i0≤x∧x≤b) i0 (show i0≤i0∧i0≤b from ⟨Nat.le_refl _,by omega⟩) ?_)
    ·exact aR (aR (aR (aR (aI aM))))
    ·exact aU (kP rfl (objsC_pure _)) aM
    rintro i hICi ihCi
    try (dsimp only at hICi)
    try dsimp only
    obtain ⟨hi1,hi2⟩:=hICi
    refine Wq<|W.seqJ (α:=Bool) 1 (fun x=>up (up (up (up (up (up mt 0 (some (.osl 0 0 l.length 6))) 1 (some (.base (.int .i64 ((a:Nat):Int))))) 4 (some (.base (.func (.func 88) #[] #[])))) 12 (some (.base (.int .i64 ((i:Nat):Int))))) 13 (some (.base (.int .i64 ((j0:Nat):Int))))) 120 (some (.base (.bool x)))) (fun x=>up mt 0 (some (objsC m))) (fun x=>x=true→i≤j0) ?_ ?_
    rotate_left
    rintro bb hICic
    try (dsimp only at hICic)
    try dsimp only
    rotate_right
    ·
     by_cases hc:i≤j0
     ·have g1:decide ((i:Int)≤(j0:Int))=true:=decide_eq_true (by omega)
      have hxl:i < m.length:=by omega
      have hxl2:i < l.length:=by omega
      have hal:a < m.length:=by omega
      have hal2:a < l.length:=by omega
      have htx:=objs_tk0 hxl
      have hta:=objs_tk0 hal
      have hcm:=compare_any m[i] m[a]
      generalize m[i]=xx at htx hcm
      generalize m[a]=aa at hta hcm
      refine Wd 160 176 (by decide) rfl mixed rfl<|qM rfl<|qM rfl<|qLe rfl<|qM rfl<|gM rfl ‹_›<|gM rfl ‹_›<|gM rfl ‹_›<|qU rfl ‹_› rfl (Ia rfl rfl rfl rfl ty30 ty40 (by omega))<|gG rfl ‹_› ty40 rfl htx<|gM rfl ‹_›<|gM rfl ‹_›<|qU rfl ‹_› rfl (Ia rfl rfl rfl rfl ty30 ty40 (by omega))<|gG rfl ‹_› ty40 rfl hta<|qU rfl ‹_› rfl (LO.callF (fr:=[]) rfl rfl hcm fok88 (.cons rfl (.pure rfl) (.cons rfl (.pure rfl) .nil)) rfl)<|gK rfl ‹_›<|qT rfl ‹_› rfl<|Nl ⟨by kernel_rfl,?_⟩
      intro yJ KJ hJ
      refine W.rename [(0,0)] 1 (by decide) ?_ ?_ (hJ (decide (cmpO xx aa < 0)) (show (decide (cmpO xx aa < 0))=true→i≤j0 from fun _=>hc))
      ·exact aR (aR (aR (aR (aR (aI aM)))))
      ·exact aU (kP rfl (objsC_pure _)) aM
     ·have g1:decide ((i:Int)≤(j0:Int))=false:=decide_eq_false (by omega)
      refine Wd 160 176 (by decide) rfl mixed rfl<|qM rfl<|qM rfl<|qLe rfl<|qM rfl<|qD rfl ‹_› rfl<|qD rfl ‹_› rfl<|qD rfl ‹_› rfl<|qD rfl ‹_› rfl<|qD rfl ‹_› rfl<|qD rfl ‹_› rfl<|qD rfl ‹_› rfl<|qD rfl ‹_› rfl<|qD rfl ‹_› rfl<|qD rfl ‹_› rfl<|qD rfl ‹_› rfl<|qP rfl ‹_› rfl<|Nl ⟨by kernel_rfl,?_⟩
      intro yJ KJ hJ
      refine W.rename [(0,0)] 1 (by decide) ?_ ?_ (hJ false (show false=true→i≤j0 from fun h=>absurd h (by simp)))
      ·exact aR (aR (aR (aR (aR (aI aM)))))
      ·exact aU (kP rfl (objsC_pure _)) aM
    cases hbb:bb with
    | true =>
     have hc:=hICic hbb
     refine Wt rfl rfl<|Wu<|Wb<|qW 180 183 rfl<|qM rfl<|qZ rfl (iW _ (by omega))<|qA rfl<|Nl ?_
     rw [show (i:Int) + 1=((i + 1:Nat):Int) from by omega]
     refine WL.rename [(0,0)] 1 (by decide) ?_ ?_ (ihCi (i + 1) (show b - (i + 1) < b - i from by omega) (show i0≤(i + 1)∧(i + 1)≤b from ⟨by omega,by omega⟩))
     ·exact aR (aR (aR (aR (aI aM))))
     ·exact aU (kP rfl (objsC_pure _)) aM
    | false =>
     clear ihCi hICic
     refine Wo rfl rfl<|Wx<|Wq<|Wb<|W.rename [(0,0)] 1 (by decide) ?_ ?_ (W.loop_ind (α:=Nat) (fun x=>x) 1 (fun x=>up (up (up (up (up mt 0 (some (.osl 0 0 l.length 6))) 1 (some (.base (.int .i64 ((a:Nat):Int))))) 4 (some (.base (.func (.func 88) #[] #[])))) 12 (some (.base (.int .i64 ((i:Nat):Int))))) 13 (some (.base (.int .i64 ((x:Nat):Int))))) (fun x=>up mt 0 (some (objsC m))) (fun x=>a≤x∧x≤j0) j0 (show a≤j0∧j0≤j0 from ⟨by omega,Nat.le_refl _⟩) ?_)
     ·exact aR (aR (aR (aR (aI aM))))
     ·exact aU (kP rfl (objsC_pure _)) aM
     rintro j hICj ihCj
     try (dsimp only at hICj)
     try dsimp only
     obtain ⟨hj1,hj2⟩:=hICj
     refine Wq<|W.seqJ (α:=Bool) 1 (fun x=>up (up (up (up (up (up mt 0 (some (.osl 0 0 l.length 6))) 1 (some (.base (.int .i64 ((a:Nat):Int))))) 4 (some (.base (.func (.func 88) #[] #[])))) 12 (some (.base (.int .i64 ((i:Nat):Int))))) 13 (some (.base (.int .i64 ((j:Nat):Int))))) 139 (some (.base (.bool x)))) (fun x=>up mt 0 (some (objsC m))) (fun x=>x=true→i≤j) ?_ ?_
     rotate_left
     rintro bb hICjc
     try (dsimp only at hICjc)
     try dsimp only
     rotate_right
     ·
      by_cases hc:i≤j
      ·have g1:decide ((i:Int)≤(j:Int))=true:=decide_eq_true (by omega)
       have hxl:j < m.length:=by omega
       have hxl2:j < l.length:=by omega
       have hal:a < m.length:=by omega
       have hal2:a < l.length:=by omega
       have htx:=objs_tk0 hxl
       have hta:=objs_tk0 hal
       have hcm:=compare_any m[j] m[a]
       generalize m[j]=xx at htx hcm
       generalize m[a]=aa at hta hcm
       refine Wd 187 204 (by decide) rfl mixed rfl<|qM rfl<|qM rfl<|qLe rfl<|qM rfl<|gM rfl ‹_›<|gM rfl ‹_›<|gM rfl ‹_›<|qU rfl ‹_› rfl (Ia rfl rfl rfl rfl ty30 ty40 (by omega))<|gG rfl ‹_› ty40 rfl htx<|gM rfl ‹_›<|gM rfl ‹_›<|qU rfl ‹_› rfl (Ia rfl rfl rfl rfl ty30 ty40 (by omega))<|gG rfl ‹_› ty40 rfl hta<|qU rfl ‹_› rfl (LO.callF (fr:=[]) rfl rfl hcm fok88 (.cons rfl (.pure rfl) (.cons rfl (.pure rfl) .nil)) rfl)<|gK rfl ‹_›<|gO rfl ‹_›<|qT rfl ‹_› rfl<|Nl ⟨by kernel_rfl,?_⟩
       intro yJ KJ hJ
       refine W.rename [(0,0)] 1 (by decide) ?_ ?_ (hJ ((!decide (cmpO xx aa < 0))) (show ((!decide (cmpO xx aa < 0)))=true→i≤j from fun _=>hc))
       ·exact aR (aR (aR (aR (aR (aI aM)))))
       ·exact aU (kP rfl (objsC_pure _)) aM
      ·have g1:decide ((i:Int)≤(j:Int))=false:=decide_eq_false (by omega)
       refine Wd 187 204 (by decide) rfl mixed rfl<|qM rfl<|qM rfl<|qLe rfl<|qM rfl<|qD rfl ‹_› rfl<|qD rfl ‹_› rfl<|qD rfl ‹_› rfl<|qD rfl ‹_› rfl<|qD rfl ‹_› rfl<|qD rfl ‹_› rfl<|qD rfl ‹_› rfl<|qD rfl ‹_› rfl<|qD rfl ‹_› rfl<|qD rfl ‹_› rfl<|qD rfl ‹_› rfl<|qD rfl ‹_› rfl<|qP rfl ‹_› rfl<|Nl ⟨by kernel_rfl,?_⟩
       intro yJ KJ hJ
       refine W.rename [(0,0)] 1 (by decide) ?_ ?_ (hJ false (show false=true→i≤j from fun h=>absurd h (by simp)))
       ·exact aR (aR (aR (aR (aR (aI aM)))))
       ·exact aU (kP rfl (objsC_pure _)) aM
     cases hbb:bb with
     | true =>
      have hc:=hICjc hbb
      refine Wt rfl rfl<|Wu<|Wb<|qW 208 211 rfl<|qM rfl<|Od rfl rfl (LO.sub_in rfl rfl rfl (iW _ (by omega)))<|qA rfl<|Nl ?_
      rw [show (j:Int) - 1=((j - 1:Nat):Int) from by omega]
      refine WL.rename [(0,0)] 1 (by decide) ?_ ?_ (ihCj (j - 1) (show (j - 1) < j from by omega) (show a≤(j - 1)∧(j - 1)≤j0 from ⟨by omega,by omega⟩))
      ·exact aR (aR (aR (aR (aI aM))))
      ·exact aU (kP rfl (objsC_pure _)) aM
     | false =>
      clear ihCj hICjc
      refine Wo rfl rfl<|Wx ?_
      by_cases hij:j < i
      ·have g5:decide ((i:Int) > (j:Int))=true:=decide_eq_true (by omega)
       clear ihC
       refine Wq<|Wq<|qW 215 218 rfl<|qM rfl<|qM rfl<|qGt rfl<|Nl<|Wt rfl ‹_›<|Wx ?_
       have hki:j < m.length:=by omega
       have hkj:a < m.length:=by omega
       have hsw:=hm.swp (i:=j) (j:=a) hki hkj
       have hti:=objs_tk0 hki
       have htj:=objs_tk0 hkj
       have hs1:=objs_sp (l:=m) (i:=j) m[a] hki
       have hs2:=objs_sp (l:=m.set j m[a]) (i:=a) m[j] (by simpa using hkj)
       generalize m[j]=pp at hsw hti hs2
       generalize m[a]=qq at hsw htj hs1 hs2
       have hjl:j < l.length:=by omega
       have hal3:a < l.length:=by omega
       refine Wq<|Wd 256 272 (by decide) rfl mixed rfl<|qM rfl<|qM rfl<|qM rfl<|qM rfl<|qM rfl<|qM rfl<|Od rfl rfl (Ia rfl rfl rfl rfl ty30 ty40 (by omega))<|qG rfl ty40 rfl htj<|qM rfl<|qM rfl<|Od rfl rfl (Ia rfl rfl rfl rfl ty30 ty40 (by omega))<|qG rfl ty40 rfl hti<|Od rfl rfl (Ia rfl rfl rfl rfl ty30 ty40 (by omega))<|qS rfl ty40 hs1 rfl<|Od rfl rfl (Ia rfl rfl rfl rfl ty30 ty40 (by omega))<|qS rfl ty40 hs2 rfl<|Nl ⟨by kernel_rfl,(Wq<|qW 276 279 rfl<|qM rfl<|qA rfl<|qA rfl<|Nl<|Wz ⟨.inl rfl,_,(up mt 0 (some (objsC ((m.set j qq).set a pp)))),(Rc (Rt0 rfl) (Rc (Rt0 rfl) Rv)),(aU rfl aM),?_⟩)⟩
       exact ⟨j,_,false,⟨by omega,by omega,hsw⟩,rfl,rfl⟩
      ·have g5:decide ((i:Int) > (j:Int))=false:=decide_eq_false (by omega)
       have hki:i < m.length:=by omega
       have hkj:j < m.length:=by omega
       have hil:i < l.length:=by omega
       have hjl:j < l.length:=by omega
       have hsw:=hm.swp (i:=i) (j:=j) hki hkj
       have hti:=objs_tk0 hki
       have htj:=objs_tk0 hkj
       have hs1:=objs_sp (l:=m) (i:=i) m[j] hki
       have hs2:=objs_sp (l:=m.set i m[j]) (i:=j) m[i] (by simpa using hkj)
       generalize m[i]=pp at hsw hti hs2
       generalize m[j]=qq at hsw htj hs1 hs2
       refine Wq<|Wq<|qW 215 218 rfl<|qM rfl<|qM rfl<|qGt rfl<|Nl<|Wo rfl ‹_›<|Wu<|Wq<|Wd 222 238 (by decide) rfl mixed rfl<|qM rfl<|qM rfl<|qM rfl<|qM rfl<|qM rfl<|qM rfl<|Od rfl rfl (Ia rfl rfl rfl rfl ty30 ty40 (by omega))<|qG rfl ty40 rfl htj<|qM rfl<|qM rfl<|Od rfl rfl (Ia rfl rfl rfl rfl ty30 ty40 (by omega))<|qG rfl ty40 rfl hti<|Od rfl rfl (Ia rfl rfl rfl rfl ty30 ty40 (by omega))<|qS rfl ty40 hs1 rfl<|Od rfl rfl (Ia rfl rfl rfl rfl ty30 ty40 (by omega))<|qS rfl ty40 hs2 rfl<|Nl ⟨by kernel_rfl,(Wq<|qW 242 245 rfl<|qM rfl<|qZ rfl (iW _ (by omega))<|qA rfl<|Nl ?_)⟩
       rw [show (i:Int) + 1=((i + 1:Nat):Int) from by omega]
       refine qW 249 252 rfl<|qM rfl<|Od rfl rfl (LO.sub_in rfl rfl rfl (iW _ (by omega)))<|qA rfl<|Nl ?_
       rw [show (j:Int) - 1=((j - 1:Nat):Int) from by omega]
       refine WL.rename [(0,0)] 1 (by decide) ?_ ?_ (ihC ((i + 1),(j - 1),((m.set i qq).set j pp)) (show b + (j - 1) - (i + 1) < b + j0 - i0 from by omega) (show (a + 1≤(i + 1)∧(i + 1)≤b)∧(a≤(j - 1)∧(j - 1) < b)∧SameO ((m.set i qq).set j pp) l from ⟨⟨by omega,by omega⟩,⟨by omega,by omega⟩,hsw⟩))
       ·exact aR (aR (aR (aR (aI aM))))
       ·exact aU (kP rfl (objsC_pure _)) aM
end Go.Proofs.YtbfnfgpjgdbmeaaGreatDoor
