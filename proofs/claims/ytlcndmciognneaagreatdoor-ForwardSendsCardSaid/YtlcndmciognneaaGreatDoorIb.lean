/-
  The way between two switches: the document's text. The hash of two addresses; the example of chapter 14. FabricFails returns true. Chapter 14: the document's hash, addresses of stations, the example, ways by the program and by the document.
-/
import Derived.Test.YtlcndmciognneaaGreatDoorHa
import Derived.Test.YtlcndmciognneaaGreatDoorMab
import Derived.Test.YtlcndmciognneaaGreatDoorQj
import Derived.Test.YtlcndmciognneaaGreatDoorGb
namespace Go.Proofs.YtlcndmciognneaaGreatDoor
open Go.RowKit
set_option maxHeartbeats 1000000 in
theorem wayX_any (f:Fab) (hf:FabS f) (he:EndsIn f) (frm to h:Int):AFn Tryz.prog 57 0 [.agg (fabC f),.base (.int .i64 frm),.base (.int .i64 to),.base (.int .i64 h)] mt (wayV (wayF f frm to h)) mt:=by
 refine AFn.eq Tryz.func57 rfl rfl (Nat.le_of_ble_eq_true rfl) ?_
 have hds:=distancesX_isl f hf
 have hwk:=worksX_any f
 have hdd:=deadX_any f
 obtain ⟨hsw,h8,h24⟩:=hf
 have hdl:=dist_len f to
 have hlt:=fun x=>dist_lt f to x
 have hge:=fun x=>dist_ge f to x
 refine Wq<|qW 0 3 rfl<|qC rfl<|qA rfl<|qA rfl<|Nl ?_
 cases hda:aliveB f frm with
 | false =>
  have g1:(!aliveB f frm)=true:=by rw [hda];rfl
  have hv:wayF f frm to h=none:=if_neg fun h=>by rw [dist_alive2 h] at hda;cases hda
  refine Wq<|Wq<|qW 7 15 rfl<|qG rfl ty35 rfl (Tl rfl)<|qM rfl<|qY rfl (hdd _) fok107 rfl<|qM rfl<|qD rfl ‹_› rfl<|qD rfl ‹_› rfl<|qD rfl ‹_› rfl<|qT rfl ‹_› rfl<|Nl<|Wt rfl rfl<|Wq<|qW 19 21 rfl<|qA rfl<|qA rfl<|Nl<|W.name 21 (21 + 1) (t:=8) (sz:=1) rfl (by decide) (by decide)<|Wy (t:=8) rfl rfl (Tl rfl) rfl<|Wz ⟨.inl rfl,_,mt,Rc (Rt rfl) (Rc (Rt rfl) (Rv)),aM,?_⟩
  exact ⟨by rw [hv];rfl,rfl⟩
 | true =>
  have g1:(!aliveB f frm)=false:=by rw [hda];rfl
  cases hal:aliveB f to with
  | false =>
   have g2:(!aliveB f to)=true:=by rw [hal];rfl
   have hv:wayF f frm to h=none:=if_neg fun h=>by rw [dist_alive h] at hal;cases hal
   refine Wq<|Wq<|qW 7 15 rfl<|qG rfl ty35 rfl (Tl rfl)<|qM rfl<|qY rfl (hdd _) fok107 rfl<|qM rfl<|gG rfl ‹_› ty35 rfl (Tl rfl)<|gM rfl ‹_›<|gY rfl ‹_› (hdd _) fok107 rfl<|qP rfl ‹_› rfl<|Nl<|Wt rfl ‹_›<|Wq<|qW 19 21 rfl<|qA rfl<|qA rfl<|Nl<|W.name 21 (21 + 1) (t:=8) (sz:=1) rfl (by decide) (by decide)<|Wy (t:=8) rfl rfl (Tl rfl) rfl<|Wz ⟨.inl rfl,_,mt,Rc (Rt rfl) (Rc (Rt rfl) (Rv)),aM,?_⟩
   exact ⟨by rw [hv];rfl,rfl⟩
  | true =>
   have g2:(!aliveB f to)=false:=by rw [hal];rfl
   obtain ⟨r0,r1⟩:=aliveB_lt hda
   refine Wq<|Wq<|qW 7 15 rfl<|qG rfl ty35 rfl (Tl rfl)<|qM rfl<|qY rfl (hdd _) fok107 rfl<|qM rfl<|gG rfl ‹_› ty35 rfl (Tl rfl)<|gM rfl ‹_›<|gY rfl ‹_› (hdd _) fok107 rfl<|qP rfl ‹_› rfl<|Nl<|Wo rfl ‹_›<|Wu<|Wq<|qW 25 29 rfl<|qG rfl ty35 rfl (Tl rfl)<|qM rfl<|qY rfl (hds _) fok108 rfl<|qA rfl<|Nl<|Wq<|qW 33 34 rfl<|qA rfl<|Nl<|W.name 34 (34 + 1) (t:=11) (sz:=1) rfl (by decide) (by decide)<|Wq<|Wq<|qW 38 40 rfl<|qM rfl<|qA rfl<|Nl<|Wb<|W.rename [(0,0),(1,34)] 2 (T':=up (up (up (up (up (up mt 2 (some (.base (.int .i64 to)))) 3 (some (.base (.int .i64 h)))) 4 (some (.own 0 0))) 10 (some (.isl (intsC (dist f to)) f.dead.length))) 11 (some (.osl 1 0 (([]:List Int)).length 1))) 12 (some (.base (.int .i64 frm)))) (H':=up (up mt 0 (some (fabC f))) 1 (some (intsC (([]:List Int))))) (by decide) ?_ ?_ ?_
   ·exact aU (lR rfl) (aU (lI rfl) (aU (lR rfl) (aU (lI rfl) (aU (lR rfl) (aU (lR rfl) aM)))))
   ·exact aU (kR rfl) (aU (kR rfl) aM)
   refine W.loop_ind (α:=Int × List Int) (fun x=>(gI (dist f to) x.1).toNat) 2 (fun x=>up (up (up (up (up (up mt 2 (some (.base (.int .i64 to)))) 3 (some (.base (.int .i64 h)))) 4 (some (.own 0 0))) 10 (some (.isl (intsC (dist f to)) f.dead.length))) 11 (some (.osl 1 0 x.2.length 1))) 12 (some (.base (.int .i64 x.1)))) (fun x=>up (up mt 0 (some (fabC f))) 1 (some (intsC x.2))) (fun x=>(0≤x.1∧x.1 < f.dead.length)∧((0≤gI (dist f to) x.1∧x.2.length + (gI (dist f to) x.1).toNat≤8∧wayF f frm to h=some (x.2++wayL f (dist f to) h (gI (dist f to) x.1).toNat x.1))∨(¬ 0≤gI (dist f to) x.1∧wayF f frm to h=none))) (frm,(([]:List Int))) (show (0≤frm∧frm < f.dead.length)∧((0≤gI (dist f to) frm∧(([]:List Int)).length + (gI (dist f to) frm).toNat≤8∧wayF f frm to h=some ((([]:List Int))++wayL f (dist f to) h (gI (dist f to) frm).toNat frm))∨(¬ 0≤gI (dist f to) frm∧wayF f frm to h=none)) from ⟨⟨r0,r1⟩,by by_cases hfr:0≤gI (dist f to) frm;exact .inl ⟨hfr,by have:=hlt frm (by omega);simp only [List.length_nil];omega,if_pos hfr⟩;exact .inr ⟨hfr,if_neg hfr⟩⟩) ?_
   rintro ⟨at_,out⟩ hIA ihA
   try (dsimp only at hIA)
   try dsimp only
   obtain ⟨⟨q0,q1⟩,hor⟩:=hIA
   by_cases eat:at_=to
   ·have g1:(at_ != to)=false:=by simpa using eat
    have hz:gI (dist f to) at_=0:=by rw [eat,dist_self hal]
    have hw:wayF f frm to h=some out:=by
     rcases hor with ⟨_,_,h3⟩|⟨h1,_⟩
     ·rw [h3,hz];show some (out++[])=_;rw [List.append_nil]
     ·omega
    refine Wq<|Wq<|qW 44 47 rfl<|qM rfl<|qM rfl<|qN rfl<|Nl<|Wo rfl ‹_›<|Wx<|Wq<|qW 210 213 rfl<|qM rfl<|qA rfl<|qA rfl<|Nl<|Wy (t:=8) rfl rfl (ints_tk rfl) (intsC_pure _)<|Wz ⟨.inl rfl,_,mt,Rc (Rt rfl) (Rc (Rt rfl) (Rv)),aM,?_⟩
    exact ⟨by rw [hw];rfl,rfl⟩
   ·have g1:(at_ != to)=true:=by simpa using eat
    refine Wq<|Wq<|qW 44 47 rfl<|qM rfl<|qM rfl<|qN rfl<|Nl<|Wt rfl ‹_›<|Wu<|Wb<|Wq<|qW 51 53 rfl<|qA rfl<|qA rfl<|Nl<|W.name 53 (53 + 1) (t:=13) (sz:=1) rfl (by decide) (by decide)<|W.name (53 + 1) (53 + 2) (t:=14) (sz:=1) rfl (by decide) (by decide)<|Wq<|Wq<|qW 57 61 rfl<|qF rfl ty35 rfl<|qL rfl ty32 rfl<|qH rfl ty32<|qM rfl<|Nl<|Wb<|W.rename [(0,0),(1,1),(2,53),(3,(53 + 1))] 4 (T':=up (up (up (up (up (up (up (up (up (up (up mt 2 (some (.base (.int .i64 to)))) 3 (some (.base (.int .i64 h)))) 4 (some (.own 0 0))) 10 (some (.isl (intsC (dist f to)) f.dead.length))) 11 (some (.osl 1 0 out.length 1))) 12 (some (.base (.int .i64 at_)))) 13 (some (.osl 2 0 (([]:List (Int × Int))).length 1))) 14 (some (.osl 3 0 (([]:List (Int × Int))).length 1))) 35 (some (.isl (lnksC f.links) f.links.length))) 36 (some (.base (.int .i64 (f.links.length:Int))))) 37 (some (.base (.int .i64 (0:Int))))) (H':=up (up (up (up mt 0 (some (fabC f))) 1 (some (intsC out))) 2 (some (intsC (fstL (([]:List (Int × Int))))))) 3 (some (intsC (sndL (([]:List (Int × Int))))))) (by decide) ?_ ?_ ?_
    ·exact aU (lR rfl) (aU (lR rfl) (aU (lR rfl) (aU (lI rfl) (aU (lI rfl) (aU (lR rfl) (aU (lI rfl) (aU (lR rfl) (aU (lI rfl) (aU (lR rfl) (aU (lR rfl) aM))))))))))
    ·exact aU (kR rfl) (aU (kR rfl) (aU (kP rfl (intsC_pure _)) (aU (kR rfl) aM)))
    refine W.loop_ind (α:=Nat × List (Int × Int)) (fun x=>f.links.length - x.1) 4 (fun x=>up (up (up (up (up (up (up (up (up (up (up mt 2 (some (.base (.int .i64 to)))) 3 (some (.base (.int .i64 h)))) 4 (some (.own 0 0))) 10 (some (.isl (intsC (dist f to)) f.dead.length))) 11 (some (.osl 1 0 out.length 1))) 12 (some (.base (.int .i64 at_)))) 13 (some (.osl 2 0 x.2.length 1))) 14 (some (.osl 3 0 x.2.length 1))) 35 (some (.isl (lnksC f.links) f.links.length))) 36 (some (.base (.int .i64 (f.links.length:Int))))) 37 (some (.base (.int .i64 (x.1:Int))))) (fun x=>up (up (up (up mt 0 (some (fabC f))) 1 (some (intsC out))) 2 (some (intsC (fstL x.2)))) 3 (some (intsC (sndL x.2)))) (fun x=>x.1≤f.links.length∧stepsK f (dist f to) at_ x.1=x.2) (0,(([]:List (Int × Int)))) (show 0≤f.links.length∧stepsK f (dist f to) at_ 0=(([]:List (Int × Int))) from ⟨Nat.zero_le _,rfl⟩) ?_
    rintro ⟨i,L⟩ hIB ihB
    try (dsimp only at hIB)
    try dsimp only
    obtain ⟨hi,hL⟩:=hIB
    have hLl:L.length≤i:=by rw [← hL];exact stepsK_len _ _ _ _
    have hf1:(fstL L).length=L.length:=by simp [fstL]
    have hf2:(sndL L).length=L.length:=by simp [sndL]
    by_cases hc:i < f.links.length
    ·have g2:decide ((i:Int) < (f.links.length:Int))=true:=decide_eq_true (by omega)
     have hl2:f.links[i]?=some f.links[i]:=by simp [hc]
     have hnx:=stepsK_succ f (dist f to) at_ i
     rw [hL] at hnx
     have hEo:=fun ho=>he.other hl2 (at_:=at_) ho
     refine Wq<|qW 65 66 rfl<|qK rfl<|Nl<|Wq<|Wt rfl ‹_›<|Wu<|W.seqJ (α:=List (Int × Int)) 4 (fun x=>up (up (up (up (up (up (up (up (up (up (up mt 2 (some (.base (.int .i64 to)))) 3 (some (.base (.int .i64 h)))) 4 (some (.own 0 0))) 10 (some (.isl (intsC (dist f to)) f.dead.length))) 11 (some (.osl 1 0 out.length 1))) 12 (some (.base (.int .i64 at_)))) 13 (some (.osl 2 0 x.length 1))) 14 (some (.osl 3 0 x.length 1))) 35 (some (.isl (lnksC f.links) f.links.length))) 36 (some (.base (.int .i64 (f.links.length:Int))))) 37 (some (.base (.int .i64 (i:Int))))) (fun x=>up (up (up (up mt 0 (some (fabC f))) 1 (some (intsC out))) 2 (some (intsC (fstL x)))) 3 (some (intsC (sndL x)))) (fun x=>stepsK f (dist f to) at_ (i + 1)=x) ?_ ?_
     rotate_left
     rintro L2 hID
     try (dsimp only at hID)
     try dsimp only
     rotate_right
     ·
      refine Wb<|Wq<|qW 70 76 rfl<|qM rfl<|qJ rfl rfl ty32 ty99 (by omega)<|Od rfl rfl (Lg rfl rfl ty99 rfl (lnksC_tk hc))<|qB rfl ty99<|qA rfl<|qS rfl ty99 (Sl rfl) rfl<|Nl ?_
      obtain ⟨lk,hlk⟩:∃ lk,f.links[i]=lk:=⟨_,rfl⟩
      rw [hlk] at hl2 hEo ⊢
      have hsb:stepB f (dist f to) at_ i=if (otherF lk at_).2=true∧wkF f i=true∧0≤gI (dist f to) at_∧gI (dist f to) (otherF lk at_).1=gI (dist f to) at_ - 1 then some ((i:Int),(otherF lk at_).1) else none:=by
       unfold stepB;rw [hl2]
      refine Wq<|qW 80 81 rfl<|qA rfl<|Nl<|W.seqJ (α:=Int × Bool) 4 (fun x=>up (up (up (up (up (up (up (up (up (up (up (up (up mt 2 (some (.base (.int .i64 to)))) 3 (some (.base (.int .i64 h)))) 4 (some (.own 0 0))) 10 (some (.isl (intsC (dist f to)) f.dead.length))) 11 (some (.osl 1 0 out.length 1))) 12 (some (.base (.int .i64 at_)))) 13 (some (.osl 2 0 L.length 1))) 14 (some (.osl 3 0 L.length 1))) 15 (some (.base (.int .i64 (i:Int))))) 17 (some (.base (.int .i64 (if x.2=true then x.1 else -1))))) 35 (some (.isl (lnksC f.links) f.links.length))) 36 (some (.base (.int .i64 (f.links.length:Int))))) 37 (some (.base (.int .i64 (i:Int))))) (fun x=>up (up (up (up mt 0 (some (fabC f))) 1 (some (intsC out))) 2 (some (intsC (fstL L)))) 3 (some (intsC (sndL L)))) (fun x=>otherF lk at_=(x.1,x.2)) ?_ ?_
      rotate_left
      rintro ⟨e,ok⟩ hIC
      try (dsimp only at hIC)
      try dsimp only
      rotate_right
      ·
       refine Wq<|qW 85 86 rfl<|qM rfl<|Nl<|Wb ?_
       by_cases e1:at_=lk.a
       ·have k1:(at_ == lk.a)=true:=by simpa using e1
        refine Wq<|qW 90 94 rfl<|qF rfl ty99 rfl<|qL rfl ty3 rfl<|qE rfl<|qA rfl<|Nl<|Wt rfl ‹_›<|qW 98 101 rfl<|qF rfl ty99 rfl<|qL rfl ty3 rfl<|qA rfl<|Nl ?_
        intro yJ KJ hJ
        refine W.rename [(0,0),(1,1),(2,2),(3,3)] 4 (by decide) ?_ ?_ (hJ (lk.b,true) (show otherF lk at_=(lk.b,true) from if_pos e1))
        ·exact aU (lR rfl) (aU (lR rfl) (aU (lR rfl) (aU (lR rfl) (aU (lR rfl) (aU (lI rfl) (aU (lI rfl) (aU (lR rfl) (aU (lI rfl) (aU (lR rfl) (aU (lI rfl) (aU (lR rfl) (aU (lR rfl) aM))))))))))))
        ·exact aU (kP rfl (intsC_pure _)) (aU (kP rfl (intsC_pure _)) (aU (kP rfl (intsC_pure _)) (aU (kR rfl) aM)))
       ·have k1:(at_ == lk.a)=false:=by simpa using e1
        by_cases e2:at_=lk.b
        ·have k2:(at_ == lk.b)=true:=by simpa using e2
         refine Wq<|qW 90 94 rfl<|qF rfl ty99 rfl<|qL rfl ty3 rfl<|qE rfl<|qA rfl<|Nl<|Wo rfl ‹_›<|Wq<|qW 105 109 rfl<|qF rfl ty99 rfl<|qL rfl ty3 rfl<|qE rfl<|qA rfl<|Nl<|Wt rfl ‹_›<|qW 113 116 rfl<|qF rfl ty99 rfl<|qL rfl ty3 rfl<|qA rfl<|Nl ?_
         intro yJ KJ hJ
         refine W.rename [(0,0),(1,1),(2,2),(3,3)] 4 (by decide) ?_ ?_ (hJ (lk.a,true) (show otherF lk at_=(lk.a,true) from by unfold otherF;rw [if_neg e1,if_pos e2]))
         ·exact aU (lR rfl) (aU (lR rfl) (aU (lR rfl) (aU (lR rfl) (aU (lR rfl) (aU (lI rfl) (aU (lI rfl) (aU (lR rfl) (aU (lI rfl) (aU (lR rfl) (aU (lI rfl) (aU (lR rfl) (aU (lR rfl) aM))))))))))))
         ·exact aU (kP rfl (intsC_pure _)) (aU (kP rfl (intsC_pure _)) (aU (kP rfl (intsC_pure _)) (aU (kR rfl) aM)))
        ·have k2:(at_ == lk.b)=false:=by simpa using e2
         refine Wq<|qW 90 94 rfl<|qF rfl ty99 rfl<|qL rfl ty3 rfl<|qE rfl<|qA rfl<|Nl<|Wo rfl ‹_›<|Wq<|qW 105 109 rfl<|qF rfl ty99 rfl<|qL rfl ty3 rfl<|qE rfl<|qA rfl<|Nl<|Wo rfl ‹_›<|Wu ?_
         intro yJ KJ hJ
         refine W.rename [(0,0),(1,1),(2,2),(3,3)] 4 (by decide) ?_ ?_ (hJ (0,false) (show otherF lk at_=(0,false) from by unfold otherF;rw [if_neg e1,if_neg e2]))
         ·exact aU (lR rfl) (aU (lR rfl) (aU (lR rfl) (aU (lR rfl) (aU (lR rfl) (aU (lI rfl) (aU (lI rfl) (aU (lR rfl) (aU (lI rfl) (aU (lR rfl) (aU (lI rfl) (aU (lR rfl) (aU (lR rfl) aM))))))))))))
         ·exact aU (kP rfl (intsC_pure _)) (aU (kP rfl (intsC_pure _)) (aU (kP rfl (intsC_pure _)) (aU (kR rfl) aM)))
      ·
       rw [hIC] at hsb hEo
       dsimp only at hsb hEo
       cases ok with
       | false =>
        rw [if_neg (by simp)] at hsb
        rw [hsb] at hnx
        rw [if_neg (by decide)]
        have k1:decide ((-1:Int) ≥ 0)=false:=by decide
        refine Wq<|Wd 120 146 (by decide) rfl mixed rfl<|qM rfl<|qGe rfl<|qM rfl<|qD rfl rfl rfl<|qD rfl rfl rfl<|qD rfl rfl rfl<|qP rfl rfl rfl<|qM rfl<|qD rfl rfl rfl<|qD rfl rfl rfl<|qD rfl rfl rfl<|qD rfl rfl rfl<|qD rfl rfl rfl<|qP rfl rfl rfl<|qM rfl<|qD rfl rfl rfl<|qD rfl rfl rfl<|qD rfl rfl rfl<|qD rfl rfl rfl<|qD rfl rfl rfl<|qD rfl rfl rfl<|qD rfl rfl rfl<|qD rfl rfl rfl<|qD rfl rfl rfl<|qD rfl rfl rfl<|qP rfl rfl rfl<|Nl ⟨by kernel_rfl,(Wo rfl rfl<|Wu ?_)⟩
        intro yJ KJ hJ
        refine W.rename [(0,0),(1,1),(2,2),(3,3)] 4 (by decide) ?_ ?_ (hJ L (show stepsK f (dist f to) at_ (i + 1)=L from by rw [hnx];exact List.append_nil _))
        ·exact aU (lR rfl) (aU (lR rfl) (aU (lR rfl) (aU (lI rfl) (aU (lI rfl) (aU (lR rfl) (aU (lI rfl) (aU (lR rfl) (aU (lI rfl) (aU (lR rfl) (aU (lR rfl) aM))))))))))
        ·exact aU (kP rfl (intsC_pure _)) (aU (kP rfl (intsC_pure _)) (aU (kP rfl (intsC_pure _)) (aU (kR rfl) aM)))
       | true =>
        obtain ⟨x0,x1⟩:=hEo rfl
        rw [if_pos rfl]
        have k1:decide (e ≥ 0)=true:=decide_eq_true (by omega)
        cases hwi:worksB f i with
        | false =>
         rw [if_neg (by rw [show wkF f i=false from hwi];simp)] at hsb
         rw [hsb] at hnx
         refine Wq<|Wd 120 146 (by decide) rfl mixed rfl<|qM rfl<|qGe rfl<|qM rfl<|gG rfl ‹_› ty35 rfl (Tl rfl)<|gM rfl ‹_›<|gY rfl ‹_› (hwk _) fok109 rfl<|qT rfl ‹_› rfl<|qM rfl<|qD rfl ‹_› rfl<|qD rfl ‹_› rfl<|qD rfl ‹_› rfl<|qD rfl ‹_› rfl<|qD rfl ‹_› rfl<|qP rfl ‹_› rfl<|qM rfl<|qD rfl rfl rfl<|qD rfl rfl rfl<|qD rfl rfl rfl<|qD rfl rfl rfl<|qD rfl rfl rfl<|qD rfl rfl rfl<|qD rfl rfl rfl<|qD rfl rfl rfl<|qD rfl rfl rfl<|qD rfl rfl rfl<|qP rfl rfl rfl<|Nl ⟨by kernel_rfl,(Wo rfl rfl<|Wu ?_)⟩
         intro yJ KJ hJ
         refine W.rename [(0,0),(1,1),(2,2),(3,3)] 4 (by decide) ?_ ?_ (hJ L (show stepsK f (dist f to) at_ (i + 1)=L from by rw [hnx];exact List.append_nil _))
         ·exact aU (lR rfl) (aU (lR rfl) (aU (lR rfl) (aU (lI rfl) (aU (lI rfl) (aU (lR rfl) (aU (lI rfl) (aU (lR rfl) (aU (lI rfl) (aU (lR rfl) (aU (lR rfl) aM))))))))))
         ·exact aU (kP rfl (intsC_pure _)) (aU (kP rfl (intsC_pure _)) (aU (kP rfl (intsC_pure _)) (aU (kR rfl) aM)))
        | true =>
         have hla:=hlt at_ (by omega)
         have hga:=hge at_
         by_cases ea:0≤gI (dist f to) at_
         ·have k3:decide (gI (dist f to) at_ ≥ 0)=true:=decide_eq_true ea
          by_cases ee:gI (dist f to) e=gI (dist f to) at_ - 1
          ·have k2:(gI (dist f to) e == gI (dist f to) at_ - 1)=true:=by simpa using ee
           rw [if_pos ⟨rfl,hwi,ea,ee⟩] at hsb
           rw [hsb] at hnx
           refine Wq<|Wd 120 146 (by decide) rfl mixed rfl<|qM rfl<|qGe rfl<|qM rfl<|gG rfl ‹_› ty35 rfl (Tl rfl)<|gM rfl ‹_›<|gY rfl ‹_› (hwk _) fok109 rfl<|qT rfl ‹_› rfl<|qM rfl<|gM rfl ‹_›<|gM rfl ‹_›<|qU rfl ‹_› rfl (Ii rfl rfl rfl rfl (Int.toNat_of_nonneg q0).symm ty27 ty3 (by omega))<|qU rfl ‹_› rfl (Li rfl rfl (gi_at1 q0 (by omega)) ty3 rfl)<|gGe rfl ‹_›<|qT rfl ‹_› rfl<|qM rfl<|gM rfl ‹_›<|gM rfl ‹_›<|qU rfl ‹_› rfl (Ii rfl rfl rfl rfl (Int.toNat_of_nonneg x0).symm ty27 ty3 (by omega))<|qU rfl ‹_› rfl (Li rfl rfl (gi_at1 x0 (by omega)) ty3 rfl)<|gM rfl ‹_›<|gM rfl ‹_›<|qU rfl ‹_› rfl (Ii rfl rfl rfl rfl (Int.toNat_of_nonneg q0).symm ty27 ty3 (by omega))<|qU rfl ‹_› rfl (Li rfl rfl (gi_at1 q0 (by omega)) ty3 rfl)<|qU rfl ‹_› rfl (LO.sub_in rfl rfl rfl (iW _ (by omega)))<|gE rfl ‹_›<|qT rfl ‹_› rfl<|Nl ⟨by kernel_rfl,(Wt rfl ‹_›<|qW 150 160 rfl<|qM rfl<|qM rfl<|Od rfl rfl (LO.buildSlice rfl ty27 ty3 (by decide) (by decide) (.cons rfl rfl rfl rfl (Sl rfl) .nil))<|Od rfl rfl (Lap rfl rfl (Sso rfl rfl (Tl rfl)) rfl (ints_tk hf1) ty27 ty27 ty3 (by decide) (by omega) (by omega) (by decide))<|qM rfl<|qM rfl<|Od rfl rfl (LO.buildSlice rfl ty27 ty3 (by decide) (by decide) (.cons rfl rfl rfl rfl (Sl rfl) .nil))<|Od rfl rfl (Lap rfl rfl (Sso rfl rfl (Tl rfl)) rfl (ints_tk hf2) ty27 ty27 ty3 (by decide) (by omega) (by omega) (by decide))<|qA rfl<|qA rfl<|Nl ?_)⟩
           rw [show intsC (fstL L)++[AV.base (.int .i64 (i:Int))]=intsC (fstL (L++[((i:Int),e)])) from by simp [intsC,fstL],show intsC (sndL L)++[AV.base (.int .i64 e)]=intsC (sndL (L++[((i:Int),e)])) from by simp [intsC,sndL],show L.length + 1=(L++[((i:Int),e)]).length from by simp]
           intro yJ KJ hJ
           refine W.rename [(0,0),(1,1),(2,153),(3,157)] 4 (by decide) ?_ ?_ (hJ (L++[((i:Int),e)]) (show stepsK f (dist f to) at_ (i + 1)=(L++[((i:Int),e)]) from hnx))
           ·exact aU (lR rfl) (aU (lR rfl) (aU (lR rfl) (aU (lI rfl) (aU (lI rfl) (aU (lR rfl) (aU (lI rfl) (aU (lR rfl) (aU (lI rfl) (aU (lR rfl) (aU (lR rfl) aM))))))))))
           ·exact aU (kP rfl (intsC_pure _)) (aU (kP rfl (intsC_pure _)) (aU (kP rfl (intsC_pure _)) (aU (kR rfl) aM)))
          ·have k2:(gI (dist f to) e == gI (dist f to) at_ - 1)=false:=by simpa using ee
           rw [if_neg (fun h=>ee h.2.2.2)] at hsb
           rw [hsb] at hnx
           refine Wq<|Wd 120 146 (by decide) rfl mixed rfl<|qM rfl<|qGe rfl<|qM rfl<|gG rfl ‹_› ty35 rfl (Tl rfl)<|gM rfl ‹_›<|gY rfl ‹_› (hwk _) fok109 rfl<|qT rfl ‹_› rfl<|qM rfl<|gM rfl ‹_›<|gM rfl ‹_›<|qU rfl ‹_› rfl (Ii rfl rfl rfl rfl (Int.toNat_of_nonneg q0).symm ty27 ty3 (by omega))<|qU rfl ‹_› rfl (Li rfl rfl (gi_at1 q0 (by omega)) ty3 rfl)<|gGe rfl ‹_›<|qT rfl ‹_› rfl<|qM rfl<|gM rfl ‹_›<|gM rfl ‹_›<|qU rfl ‹_› rfl (Ii rfl rfl rfl rfl (Int.toNat_of_nonneg x0).symm ty27 ty3 (by omega))<|qU rfl ‹_› rfl (Li rfl rfl (gi_at1 x0 (by omega)) ty3 rfl)<|gM rfl ‹_›<|gM rfl ‹_›<|qU rfl ‹_› rfl (Ii rfl rfl rfl rfl (Int.toNat_of_nonneg q0).symm ty27 ty3 (by omega))<|qU rfl ‹_› rfl (Li rfl rfl (gi_at1 q0 (by omega)) ty3 rfl)<|qU rfl ‹_› rfl (LO.sub_in rfl rfl rfl (iW _ (by omega)))<|gE rfl ‹_›<|qT rfl ‹_› rfl<|Nl ⟨by kernel_rfl,(Wo rfl ‹_›<|Wu ?_)⟩
           intro yJ KJ hJ
           refine W.rename [(0,0),(1,1),(2,2),(3,3)] 4 (by decide) ?_ ?_ (hJ L (show stepsK f (dist f to) at_ (i + 1)=L from by rw [hnx];exact List.append_nil _))
           ·exact aU (lR rfl) (aU (lR rfl) (aU (lR rfl) (aU (lI rfl) (aU (lI rfl) (aU (lR rfl) (aU (lI rfl) (aU (lR rfl) (aU (lI rfl) (aU (lR rfl) (aU (lR rfl) aM))))))))))
           ·exact aU (kP rfl (intsC_pure _)) (aU (kP rfl (intsC_pure _)) (aU (kP rfl (intsC_pure _)) (aU (kR rfl) aM)))
         ·have k3:decide (gI (dist f to) at_ ≥ 0)=false:=decide_eq_false ea
          rw [if_neg (fun h=>ea h.2.2.1)] at hsb
          rw [hsb] at hnx
          refine Wq<|Wd 120 146 (by decide) rfl mixed rfl<|qM rfl<|qGe rfl<|qM rfl<|gG rfl ‹_› ty35 rfl (Tl rfl)<|gM rfl ‹_›<|gY rfl ‹_› (hwk _) fok109 rfl<|qT rfl ‹_› rfl<|qM rfl<|gM rfl ‹_›<|gM rfl ‹_›<|qU rfl ‹_› rfl (Ii rfl rfl rfl rfl (Int.toNat_of_nonneg q0).symm ty27 ty3 (by omega))<|qU rfl ‹_› rfl (Li rfl rfl (gi_at1 q0 (by omega)) ty3 rfl)<|gGe rfl ‹_›<|qT rfl ‹_› rfl<|qM rfl<|qD rfl ‹_› rfl<|qD rfl ‹_› rfl<|qD rfl ‹_› rfl<|qD rfl ‹_› rfl<|qD rfl ‹_› rfl<|qD rfl ‹_› rfl<|qD rfl ‹_› rfl<|qD rfl ‹_› rfl<|qD rfl ‹_› rfl<|qD rfl ‹_› rfl<|qP rfl ‹_› rfl<|Nl ⟨by kernel_rfl,(Wo rfl rfl<|Wu ?_)⟩
          intro yJ KJ hJ
          refine W.rename [(0,0),(1,1),(2,2),(3,3)] 4 (by decide) ?_ ?_ (hJ L (show stepsK f (dist f to) at_ (i + 1)=L from by rw [hnx];exact List.append_nil _))
          ·exact aU (lR rfl) (aU (lR rfl) (aU (lR rfl) (aU (lI rfl) (aU (lI rfl) (aU (lR rfl) (aU (lI rfl) (aU (lR rfl) (aU (lI rfl) (aU (lR rfl) (aU (lR rfl) aM))))))))))
          ·exact aU (kP rfl (intsC_pure _)) (aU (kP rfl (intsC_pure _)) (aU (kP rfl (intsC_pure _)) (aU (kR rfl) aM)))
     ·
      refine qW 164 166 rfl<|qZ rfl (iW _ (by omega))<|qM rfl<|Nl<|WL.rename [(0,0),(1,1),(2,2),(3,3)] 4 (by decide) ?_ ?_ (ihB ((i + 1),L2) (show f.links.length - (i + 1) < f.links.length - i from by omega) (show (i + 1)≤f.links.length∧stepsK f (dist f to) at_ (i + 1)=L2 from ⟨by omega,hID⟩))
      ·exact aU (lR rfl) (aU (lR rfl) (aU (lR rfl) (aU (lI rfl) (aU (lI rfl) (aU (lR rfl) (aU (lI rfl) (aU (lR rfl) (aU (lI rfl) (aU (lR rfl) (aU (lR rfl) aM))))))))))
      ·exact aU (kP rfl (intsC_pure _)) (aU (kP rfl (intsC_pure _)) (aU (kP rfl (intsC_pure _)) (aU (kR rfl) aM)))
    ·have g2:decide ((i:Int) < (f.links.length:Int))=false:=decide_eq_false (by omega)
     refine Wq<|qW 65 66 rfl<|qK rfl<|Nl<|Wq<|Wo rfl ‹_›<|Wx ?_
     obtain rfl:i=f.links.length:=by omega
     clear ihB
     rcases hor with ⟨hat,hol,hw⟩|⟨hat,hw⟩
     ·have hpos:0 < gI (dist f to) at_:=by
       have:gI (dist f to) at_≠0:=fun h0=>eat ((dist_ok hal).zero _ h0)
       omega
      obtain ⟨h0,hk,hdn,hwn⟩:=way_next (h:=h) hpos hL
      have k1:((L.length:Int) == 0)=false:=by simp;exact fun h=>by rw [h] at h0;exact absurd h0 (by decide)
      obtain ⟨hn,hhn,hn0⟩:∃ hn:Int,(if 0 < h then h else 0)=hn∧0≤hn:=⟨_,rfl,by split<;>omega⟩
      have hpk:=pickN_eq h h0
      rw [hhn] at hpk
      obtain ⟨pk,hpke⟩:∃ pk,pickN h L.length=pk:=⟨_,rfl⟩
      rw [hpke] at hpk hk hdn hwn
      have hrg:=gI_range (d:=dist f to) (x:=gI (sndL L) pk) (by omega)
      refine Wq<|Wq<|qW 170 173 rfl<|qM rfl<|Od rfl rfl (LO.len rfl rfl ty27)<|qE rfl<|Nl<|Wo rfl ‹_›<|Wu<|Wq<|qW 183 189 rfl<|qM rfl<|Od rfl rfl (LO.max rfl rfl rfl) ?_
      rw [hhn]
      refine qM rfl<|Od rfl rfl (LO.len rfl rfl ty27)<|Od rfl rfl (LO.rem_in rfl rfl rfl (by omega) (by omega))<|qA rfl<|Nl ?_
      rw [hpk]
      refine Wd 193 206 (by decide) rfl mixed rfl<|qM rfl<|qM rfl<|qM rfl<|Od rfl rfl (Ia rfl rfl rfl rfl ty27 ty3 (by omega))<|Od rfl rfl (Ld rfl rfl rfl (ni_at (k:=pk) (by omega)) ty3 rfl)<|Od rfl rfl (LO.buildSlice rfl ty27 ty3 (by decide) (by decide) (.cons rfl rfl rfl rfl (Sl rfl) .nil))<|Od rfl rfl (Lap rfl rfl (Sso rfl rfl (Tl rfl)) rfl (ints_tk rfl) ty27 ty27 ty3 (by decide) (by omega) (by omega) (by decide))<|qM rfl<|qM rfl<|Od rfl rfl (Ia rfl rfl rfl rfl ty27 ty3 (by omega))<|Od rfl rfl (Ld rfl rfl rfl (ni_at (k:=pk) (by omega)) ty3 rfl)<|qA rfl<|qA rfl<|Nl ⟨by kernel_rfl,?_⟩
      rw [ints_snoc,show out.length + 1=(out++[gI (fstL L) pk]).length from by simp]
      refine WL.rename [(0,0),(1,199)] 2 (by decide) ?_ ?_ (ihA ((gI (sndL L) pk),(out++[gI (fstL L) pk])) (show (gI (dist f to) (gI (sndL L) pk)).toNat < (gI (dist f to) at_).toNat from by omega) (show (0≤(gI (sndL L) pk)∧(gI (sndL L) pk) < f.dead.length)∧((0≤gI (dist f to) (gI (sndL L) pk)∧(out++[gI (fstL L) pk]).length + (gI (dist f to) (gI (sndL L) pk)).toNat≤8∧wayF f frm to h=some ((out++[gI (fstL L) pk])++wayL f (dist f to) h (gI (dist f to) (gI (sndL L) pk)).toNat (gI (sndL L) pk)))∨(¬ 0≤gI (dist f to) (gI (sndL L) pk)∧wayF f frm to h=none)) from ⟨⟨hrg.1,by omega⟩,.inl ⟨by omega,by simp only [List.length_append,List.length_singleton];omega,by rw [hw,hwn,List.append_assoc];rfl⟩⟩))
      ·exact aU (lR rfl) (aU (lI rfl) (aU (lR rfl) (aU (lI rfl) (aU (lR rfl) (aU (lR rfl) aM)))))
      ·exact aU (kP rfl (intsC_pure _)) (aU (kR rfl) aM)
     ·have hLe:L=[]:=by
       cases L with
       | nil=>rfl
       | cons p L =>
        obtain ⟨_,_,_,_,_,_,_,h5,_⟩:=stepsK_mem (f:=f) (d:=dist f to) (at_:=at_) (k:=f.links.length) (p:=p) (by rw [hL];simp)
        exact absurd h5 hat
      have k1:((L.length:Int) == 0)=true:=by rw [hLe];rfl
      refine Wq<|Wq<|qW 170 173 rfl<|qM rfl<|Od rfl rfl (LO.len rfl rfl ty27)<|qE rfl<|Nl<|Wt rfl ‹_›<|Wq<|qW 177 179 rfl<|qA rfl<|qA rfl<|Nl<|W.name 179 (179 + 1) (t:=8) (sz:=1) rfl (by decide) (by decide)<|Wy (t:=8) rfl rfl (Tl rfl) rfl<|Wz ⟨.inl rfl,_,mt,Rc (Rt rfl) (Rc (Rt rfl) (Rv)),aM,?_⟩
      exact ⟨by rw [hw];rfl,rfl⟩
theorem by_atI {l:List Int} {k:Nat} (h:k < l.length):(bytesC l)[0 + k * 1]?=some (.base (.int .u8 l[k])):=by simp [bytesC,h]
theorem grow_any (n:Nat) (h1:1≤n) (h2:n≤1000000):AFn Tryz.prog 129 0 [.nils,.base (.int .i64 (n:Int))] mt (.osl 0 0 0 1) (up mt 0 (some [])):=by
 refine AFn.eq Tryz.func129 rfl rfl (Nat.le_of_ble_eq_true rfl) ?_
 have g1:decide ((n:Int) < 0)=false:=decide_eq_false (by omega)
 refine Wq<|qW 0 1 rfl<|qA rfl<|Nl<|Wq<|Wq<|qW 5 7 rfl<|qM rfl<|qK rfl<|Nl<|Wo rfl rfl<|Wu<|Wq<|Wq<|qW 17 25 rfl<|qM rfl<|qM rfl<|Od rfl rfl (LO.cap_nil rfl rfl ty24)<|qM rfl<|qH rfl ty24<|Od rfl rfl (LO.sub_in rfl rfl rfl (iW _ (by omega)))<|Od rfl rfl (LO.sub_in rfl rfl rfl (iW _ (by omega)))<|qA rfl<|Nl ?_
 rw [show (n:Int) - (0 - ((0:Nat):Int))=(n:Int) from by omega]
 have g2:decide ((n:Int) > 0)=true:=decide_eq_true (by omega)
 refine Wq<|qW 29 31 rfl<|qM rfl<|qGt rfl<|Nl<|Wt rfl ‹_›<|qW 35 45 rfl<|qM rfl<|qM rfl<|Od rfl rfl (LO.cap_nil rfl rfl ty24)<|Od rfl rfl (LO.slice_nil rfl rfl rfl ty24 ty5)<|qM rfl<|Od rfl rfl (LO.append_make rfl rfl rfl ty24 ty3 ty5 (by decide) (by omega) (by omega) (by omega))<|qM rfl<|qH rfl ty24<|Od rfl rfl (LO.slice rfl rfl Bnd.no (Ba rfl rfl) (by omega) (by omega) ty24 ty5)<|qA rfl<|Nl<|Wq<|qW 49 51 rfl<|qM rfl<|qA rfl<|Nl<|W.rename [(0,40)] 1 (T':=up mt 4 (some (.osl 0 0 (0) 1))) (H':=up mt 0 (some ([]))) (by decide) ?_ ?_ ?_
 ·exact aU (lI rfl) aM
 ·exact aU (kR rfl) aM
 refine Wz ⟨.inl rfl,_,up mt 0 (some ([])),Rc (Rt rfl) Rv,aU rfl aM,?_⟩
 exact ⟨rfl,rfl⟩
theorem concat_any (L:List (List Int)) (h1:1≤L.flatten.length) (h2:L.flatten.length≤1000000) (h3:L.length≤1000):AFn Tryz.prog 89 0 [.isl (lsC L) L.length] mt (.osl 0 0 L.flatten.length 1) (up mt 0 (some (bytesC L.flatten))):=by
 refine AFn.eq Tryz.func89 rfl rfl (Nat.le_of_ble_eq_true rfl) ?_
 have hg:=grow_any L.flatten.length h1 h2
 refine Wq<|qW 0 1 rfl<|qA rfl<|Nl<|Wq<|qW 5 6 rfl<|qA rfl<|Nl<|Wq<|Wq<|qW 10 13 rfl<|qM rfl<|qH rfl ty182<|qM rfl<|Nl<|Wb<|W.rename [] 0 (T':=up (up (up (up (up mt 0 (some (.isl (lsC L) L.length))) 3 (some (.base (.int .i64 ((L.take 0).flatten.length:Int))))) 9 (some (.isl (lsC L) L.length))) 10 (some (.base (.int .i64 (L.length:Int))))) 11 (some (.base (.int .i64 (0:Int))))) (H':=mt) (by decide) ?_ ?_ ?_
 ·exact aU (lR rfl) (aU (lR rfl) (aU (lR rfl) (aU (lR rfl) (aU (lR rfl) aM))))
 ·exact aM
 refine W.loop_ind (α:=Nat) (fun x=>L.length - x) 0 (fun x=>up (up (up (up (up mt 0 (some (.isl (lsC L) L.length))) 3 (some (.base (.int .i64 ((L.take x).flatten.length:Int))))) 9 (some (.isl (lsC L) L.length))) 10 (some (.base (.int .i64 (L.length:Int))))) 11 (some (.base (.int .i64 (x:Int))))) (fun x=>mt) (fun x=>x≤L.length) 0 (show 0≤L.length from Nat.zero_le _) ?_
 rintro i hIA ihA
 try (dsimp only at hIA)
 try dsimp only
 have hfl:=flat_le (L:=L) i
 by_cases hc:i < L.length
 ·have g1:decide ((i:Int) < (L.length:Int))=true:=decide_eq_true (by omega)
  have hfl2:=flat_le (L:=L) (i + 1)
  have hn:=flat_take hc
  have hnl:(L.take (i + 1)).flatten.length=(L.take i).flatten.length + L[i].length:=by rw [hn,List.length_append]
  have g2:decide ((((L.take i).flatten.length:Int) + (L[i].length:Int)) < 0)=false:=decide_eq_false (by omega)
  refine Wq<|qW 17 18 rfl<|qK rfl<|Nl<|Wq<|Wt rfl ‹_›<|Wu<|Wq<|Wb<|Wq<|qW 22 25 rfl<|qJ rfl rfl ty182 ty24 (by omega)<|Od rfl rfl (Li rfl rfl (ls_at hc) ty24 rfl)<|qA rfl<|Nl<|Wq<|qW 29 34 rfl<|qM rfl<|qM rfl<|qH rfl ty24<|qZ rfl (iW _ (by omega))<|qA rfl<|Nl<|Wq<|qW 38 40 rfl<|qM rfl<|qK rfl<|Nl<|Wo rfl rfl<|Wu<|qW 50 52 rfl<|qZ rfl (iW _ (by omega))<|qM rfl<|Nl ?_
  rw [show (((L.take i).flatten.length:Int) + (L[i].length:Int))=((L.take (i + 1)).flatten.length:Int) from by rw [hnl];omega]
  refine WL.rename [] 0 (by decide) ?_ ?_ (ihA (i + 1) (show L.length - (i + 1) < L.length - i from by omega) (show (i + 1)≤L.length from by omega))
  ·exact aU (lR rfl) (aU (lR rfl) (aU (lR rfl) (aU (lR rfl) (aU (lR rfl) aM))))
  ·exact aM
 ·have g1:decide ((i:Int) < (L.length:Int))=false:=decide_eq_false (by omega)
  refine Wq<|qW 17 18 rfl<|qK rfl<|Nl<|Wq<|Wo rfl ‹_›<|Wx ?_
  obtain rfl:i=L.length:=by omega
  rw [List.take_length]
  refine Wq<|qW 56 59 rfl<|qM rfl<|Od rfl rfl (LO.callO (fr:=[]) rfl rfl (hg) fok129 (.cons rfl (.pure rfl) (.cons rfl (.pure rfl) .nil)) rfl (by decide))<|qA rfl<|Nl<|Wq<|Wq<|qW 63 66 rfl<|qM rfl<|qH rfl ty182<|qM rfl<|Nl<|Wb<|W.rename [(0,57)] 1 (T':=up (up (up (up mt 6 (some (.osl 0 0 (([]:List Int)).length 1))) 25 (some (.isl (lsC L) L.length))) 26 (some (.base (.int .i64 (L.length:Int))))) 27 (some (.base (.int .i64 (0:Int))))) (H':=up mt 0 (some (bytesC (([]:List Int))))) (by decide) ?_ ?_ ?_
  ·exact aU (lR rfl) (aU (lR rfl) (aU (lR rfl) (aU (lI rfl) aM)))
  ·exact aU (kR rfl) aM
  refine W.loop_ind (α:=Nat × List Int) (fun x=>L.length - x.1) 1 (fun x=>up (up (up (up mt 6 (some (.osl 0 0 x.2.length 1))) 25 (some (.isl (lsC L) L.length))) 26 (some (.base (.int .i64 (L.length:Int))))) 27 (some (.base (.int .i64 (x.1:Int))))) (fun x=>up mt 0 (some (bytesC x.2))) (fun x=>x.1≤L.length∧x.2=(L.take x.1).flatten) (0,(([]:List Int))) (show 0≤L.length∧(([]:List Int))=(L.take 0).flatten from ⟨Nat.zero_le _,rfl⟩) ?_
  rintro ⟨i,acc⟩ hIB ihB
  try (dsimp only at hIB)
  try dsimp only
  obtain ⟨hi,hacc⟩:=hIB
  have hfl:=flat_le (L:=L) i
  rw [← hacc] at hfl
  by_cases hc:i < L.length
  ·have g1:decide ((i:Int) < (L.length:Int))=true:=decide_eq_true (by omega)
   have hfl2:=flat_le (L:=L) (i + 1)
   have hn:=flat_take hc
   rw [← hacc] at hn
   have hnl:(acc++L[i]).length≤L.flatten.length:=by rw [← hn];exact hfl2
   rw [List.length_append] at hnl
   refine Wq<|qW 70 71 rfl<|qK rfl<|Nl<|Wq<|Wt rfl ‹_›<|Wu<|Wq<|Wb<|Wq<|qW 75 78 rfl<|qJ rfl rfl ty182 ty24 (by omega)<|Od rfl rfl (Li rfl rfl (ls_at hc) ty24 rfl)<|qA rfl<|Nl<|qW 82 86 rfl<|qM rfl<|qM rfl<|Od rfl rfl (Lap rfl rfl (Ssi rfl rfl (by simp [bytesC])) rfl (bytes_tk rfl) ty24 ty24 ty5 (by decide) (by omega) (by omega) (by decide))<|qA rfl<|Nl<|qW 90 92 rfl<|qZ rfl (iW _ (by omega))<|qM rfl<|Nl ?_
   rw [show bytesC acc++bytesC L[i]=bytesC (acc++L[i]) from by simp [bytesC],show acc.length + L[i].length=(acc++L[i]).length from by simp]
   refine WL.rename [(0,84)] 1 (by decide) ?_ ?_ (ihB ((i + 1),(acc++L[i])) (show L.length - (i + 1) < L.length - i from by omega) (show (i + 1)≤L.length∧(acc++L[i])=(L.take (i + 1)).flatten from ⟨by omega,hn.symm⟩))
   ·exact aU (lR rfl) (aU (lR rfl) (aU (lR rfl) (aU (lI rfl) aM)))
   ·exact aU (kP rfl (bytesC_pure _)) aM
  ·have g1:decide ((i:Int) < (L.length:Int))=false:=decide_eq_false (by omega)
   refine Wq<|qW 70 71 rfl<|qK rfl<|Nl<|Wq<|Wo rfl ‹_›<|Wx ?_
   obtain rfl:i=L.length:=by omega
   rw [List.take_length] at hacc
   subst hacc
   refine Wq<|qW 96 98 rfl<|qM rfl<|qA rfl<|Nl<|W.rename [(0,0)] 1 (T':=up mt 2 (some (.osl 0 0 (L.flatten.length) 1))) (H':=up mt 0 (some (bytesC L.flatten))) (by decide) ?_ ?_ ?_
   ·exact aU (lI rfl) aM
   ·exact aU (kP rfl (bytesC_pure _)) aM
   refine Wz ⟨.inl rfl,_,up mt 0 (some (bytesC L.flatten)),Rc (Rt rfl) Rv,aU rfl aM,?_⟩
   exact ⟨rfl,rfl⟩
def hashK (l:List Int) (k:Nat):Int:=((List.range k).map fun (j:Nat)=>((j:Int) + 1) * gI l j).sum
theorem hashK_succ (l:List Int) (k:Nat):hashK l (k + 1)=hashK l k + ((k:Int) + 1) * gI l k:=by
 unfold hashK;rw [List.range_succ,List.map_append,List.sum_append];simp
def hashF (l:List Int):Int:=hashK l l.length % 65521
def IsBy (l:List Int):Prop:=∀ x∈l,0≤x∧x≤255
theorem hash_term {l:List Int} (hb:IsBy l) (h12:l.length=12) {k:Nat} (hk:k < 12):0≤((k:Int) + 1) * gI l k∧((k:Int) + 1) * gI l k≤3060:=by
 have h1:=hb (l[k]'(by omega)) (List.getElem_mem _)
 rw [gI_at (by omega)]
 generalize l[k]'(by omega)=x at h1
 have h2:0≤((k:Int) + 1) * x:=Int.mul_nonneg (by omega) h1.1
 have h3:((k:Int) + 1) * x≤12 * 255:=Int.mul_le_mul (by omega) h1.2 h1.1 (by omega)
 omega
theorem hashK_bd {l:List Int} (hb:IsBy l) (h12:l.length=12) (k:Nat) (hk:k≤12):0≤hashK l k∧hashK l k≤k * 3060:=by
 induction k with
 | zero=>simp [hashK]
 | succ k ih =>
  rw [hashK_succ]
  have:=ih (by omega)
  have:=hash_term hb h12 (k:=k) (by omega)
  omega
theorem IsBy.app {a b:List Int} (ha:IsBy a) (hb:IsBy b):IsBy (a++b):=fun x hx=>(List.mem_append.1 hx).elim (ha x) (hb x)
theorem hash_any (a b:List Int) (ha:a.length=6) (hb:b.length=6) (hba:IsBy a) (hbb:IsBy b):AFn Tryz.prog 45 0 [.agg (bytesC a),.agg (bytesC b)] mt (.base (.int .i64 (hashF (a++b)))) mt:=by
 refine AFn.eq Tryz.func45 rfl rfl (Nat.le_of_ble_eq_true rfl) ?_
 have h12:(a++b).length=12:=by rw [List.length_append,ha,hb]
 have hcc:=concat_any [a,b] (by simp;omega) (by simp;omega) (by simp)
 rw [show [a,b].flatten=a++b from by simp,h12,show lsC [a,b]=[.isl (bytesC a) a.length,.isl (bytesC b) b.length] from rfl,ha,hb] at hcc
 have hby:=hba.app hbb
 unfold hashF
 rw [h12]
 generalize hl:a++b=l at *
 refine Wq<|qW 0 3 rfl<|qC rfl<|qC rfl<|qA rfl<|Nl<|Wq<|qW 7 8 rfl<|qA rfl<|Nl<|Wq<|Wq<|Wd 12 18 (by decide) rfl mixed rfl<|Od rfl rfl (LO.slice_arf rfl rfl rfl ty23 ty5 (bytes_tk ha) (bytesC_pure _) (by decide))<|Od rfl rfl (LO.slice_arf rfl rfl rfl ty23 ty5 (bytes_tk hb) (bytesC_pure _) (by decide))<|Od rfl rfl (LO.buildSlice rfl ty182 ty24 (by decide) (by decide) (.cons rfl rfl rfl rfl (Sl rfl) (.cons rfl rfl rfl rfl (Sl rfl) .nil)))<|Od rfl rfl (LO.callO (fr:=[14]) rfl rfl (hcc) fok89 (.cons rfl (.one (.osl (by decide) rfl (Tl rfl) rfl)) .nil) (bytesC_pure _) (by decide))<|Od rfl rfl (LO.len rfl rfl ty24)<|qM rfl<|Nl ⟨by kernel_rfl,(Wb<|W.loop_keep (α:=Nat) (fun x=>12 - x) 1 (fun x=>[(5,.base (.int .i64 (hashK l x))),(11,.osl 0 0 12 1),(13,.base (.int .i64 (x:Int)))]) (fun x=>up mt 0 (some (bytesC l))) (fun x=>x≤12) 0 [(0,15)] (.cons (t:=12) rfl (by exact .inl rfl) .nil) (show 0≤12 from Nat.zero_le _) (by decide) ?_ ?_ ?_)⟩
 ·exact lC (lR rfl) (lC (lI rfl) (lC (lR rfl) lN))
 ·exact aU (kP rfl (bytesC_pure _)) aM
 rintro i hIA ihA
 try (dsimp only at hIA)
 try dsimp only [baseT,List.cons_append,List.nil_append]
 by_cases hc:i < 12
 ·have g1:decide ((i:Int) < 12)=true:=decide_eq_true (by omega)
  have hk:=hashK_bd hby h12 i hIA
  have ht:=hash_term hby h12 hc
  have hs:=hashK_succ l i
  have hil:i < l.length:=by omega
  rw [gI_at hil] at ht hs
  have hb2:=hby l[i] (List.getElem_mem _)
  refine Wq<|qW 22 23 rfl<|qK rfl<|Nl<|Wq<|Wt rfl ‹_›<|Wu<|Wq<|Wb<|Wq<|qW 27 32 rfl<|qM rfl<|Od rfl rfl (Ia rfl rfl rfl rfl ty24 ty5 (by omega))<|Od rfl rfl (Ld rfl rfl rfl (by_atI hil) ty5 rfl)<|qA rfl<|qA rfl<|Nl<|qW 36 44 rfl<|qM rfl<|qM rfl<|qZ rfl (iW _ (by omega))<|qM rfl<|Od rfl rfl (Ci rfl rfl ty5 ty3 (iW _ (by omega)))<|Od rfl rfl (LO.mul_in rfl rfl rfl (iW _ (by omega)))<|qZ rfl (iW _ (by omega))<|qA rfl<|Nl ?_
  rw [← hs]
  refine qW 48 50 rfl<|qZ rfl (iW _ (by omega))<|qM rfl<|Nl<|WL.renameL [(0,0)] 1 (by decide) ?_ ?_ (ihA (i + 1) (show 12 - (i + 1) < 12 - i from by omega) (show (i + 1)≤12 from by omega))
  ·exact lC (lR rfl) (lC (lI rfl) (lC (lR rfl) (lC (lR rfl) lN)))
  ·exact aU (kP rfl (bytesC_pure _)) aM
 ·have g1:decide ((i:Int) < 12)=false:=decide_eq_false (by omega)
  refine Wq<|qW 22 23 rfl<|qK rfl<|Nl<|Wq<|Wo rfl ‹_›<|Wx ?_
  obtain rfl:i=12:=by omega
  have hk:=hashK_bd hby h12 12 (by omega)
  refine Wq<|qW 54 57 rfl<|qM rfl<|Od rfl rfl (LO.rem_in rfl rfl rfl (by omega) (by omega))<|qA rfl<|Nl<|Wz ⟨.inl rfl,_,mt,Rc (Rt rfl) (Rv),aM,?_⟩
  exact ⟨rfl,rfl⟩
theorem by_len {l:List Int} {n:Nat} (h:l.length=n):(bytesC l).length=n * 1:=by simp [bytesC,h]
theorem hashX_any (a b:List Int) (ha:a.length=6) (hb:b.length=6) (hba:IsBy a) (hbb:IsBy b):AFn Tryz.prog 58 0 [.agg (bytesC a),.agg (bytesC b)] mt (.base (.int .i64 (hashF (a++b)))) mt:=by
 refine AFn.eq Tryz.func58 rfl rfl (Nat.le_of_ble_eq_true rfl) ?_
 have h12:(a++b).length=12:=by rw [List.length_append,ha,hb]
 have hab:bytesC a++bytesC b=bytesC (a++b):=by simp [bytesC]
 have hby:=hba.app hbb
 unfold hashF
 rw [h12]
 generalize hl:a++b=l at *
 refine Wq<|qW 0 3 rfl<|qC rfl<|qC rfl<|qA rfl<|Nl<|Wq<|qW 7 8 rfl<|qA rfl<|Nl<|Wq<|Wq<|Wd 12 18 (by decide) rfl mixed rfl<|Od rfl rfl (LO.slice_arf rfl rfl rfl ty23 ty5 (bytes_tk ha) (bytesC_pure _) (by decide))<|Od rfl rfl (Lan rfl rfl (Ssi rfl rfl (by_len ha)) ty24 ty24 ty5 (by decide) (by omega) (by omega) (by decide))<|Od rfl rfl (LO.slice_arf rfl rfl rfl ty23 ty5 (bytes_tk hb) (bytesC_pure _) (by decide))<|Od rfl rfl (Lap rfl rfl (Ssi rfl rfl (by_len hb)) rfl (bytes_tk ha) ty24 ty24 ty5 (by decide) (by omega) (by omega) (by decide))<|Od rfl rfl (LO.len rfl rfl ty24)<|qM rfl<|Nl ⟨by kernel_rfl,?_⟩
 rw [hab]
 refine Wb<|W.loop_keep (α:=Nat) (fun x=>12 - x) 1 (fun x=>[(5,.base (.int .i64 (hashK l x))),(11,.osl 0 0 12 1),(13,.base (.int .i64 (x:Int)))]) (fun x=>up mt 0 (some (bytesC l))) (fun x=>x≤12) 0 [(0,15)] (.cons (t:=12) rfl (by exact .inl rfl) .nil) (show 0≤12 from Nat.zero_le _) (by decide) ?_ ?_ ?_
 ·exact lC (lR rfl) (lC (lI rfl) (lC (lR rfl) lN))
 ·exact aU (kP rfl (bytesC_pure _)) aM
 rintro i hIA ihA
 try (dsimp only at hIA)
 try dsimp only [baseT,List.cons_append,List.nil_append]
 by_cases hc:i < 12
 ·have g1:decide ((i:Int) < 12)=true:=decide_eq_true (by omega)
  have hk:=hashK_bd hby h12 i hIA
  have ht:=hash_term hby h12 hc
  have hs:=hashK_succ l i
  have hil:i < l.length:=by omega
  rw [gI_at hil] at ht hs
  have hb2:=hby l[i] (List.getElem_mem _)
  refine Wq<|qW 22 23 rfl<|qK rfl<|Nl<|Wq<|Wt rfl ‹_›<|Wu<|Wq<|Wb<|Wq<|qW 27 32 rfl<|qM rfl<|Od rfl rfl (Ia rfl rfl rfl rfl ty24 ty5 (by omega))<|Od rfl rfl (Ld rfl rfl rfl (by_atI hil) ty5 rfl)<|qA rfl<|qA rfl<|Nl<|qW 36 44 rfl<|qM rfl<|qM rfl<|qZ rfl (iW _ (by omega))<|qM rfl<|Od rfl rfl (Ci rfl rfl ty5 ty3 (iW _ (by omega)))<|Od rfl rfl (LO.mul_in rfl rfl rfl (iW _ (by omega)))<|qZ rfl (iW _ (by omega))<|qA rfl<|Nl ?_
  rw [← hs]
  refine qW 48 50 rfl<|qZ rfl (iW _ (by omega))<|qM rfl<|Nl<|WL.renameL [(0,0)] 1 (by decide) ?_ ?_ (ihA (i + 1) (show 12 - (i + 1) < 12 - i from by omega) (show (i + 1)≤12 from by omega))
  ·exact lC (lR rfl) (lC (lI rfl) (lC (lR rfl) (lC (lR rfl) lN)))
  ·exact aU (kP rfl (bytesC_pure _)) aM
 ·have g1:decide ((i:Int) < 12)=false:=decide_eq_false (by omega)
  refine Wq<|qW 22 23 rfl<|qK rfl<|Nl<|Wq<|Wo rfl ‹_›<|Wx ?_
  obtain rfl:i=12:=by omega
  have hk:=hashK_bd hby h12 12 (by omega)
  refine Wq<|qW 54 57 rfl<|qM rfl<|Od rfl rfl (LO.rem_in rfl rfl rfl (by omega) (by omega))<|qA rfl<|Nl<|Wz ⟨.inl rfl,_,mt,Rc (Rt rfl) (Rv),aM,?_⟩
  exact ⟨rfl,rfl⟩
def fab2:Fab:=⟨2,[⟨1,0,1⟩],[false],[false,false]⟩
theorem fab2_s:FabS fab2:=⟨rfl,by decide,by decide⟩
theorem fab2_e:EndsIn fab2:=fun i l h=>by
 match i with
 | 0=>simp [fab2] at h;subst h;decide
 | i + 1=>simp [fab2] at h
theorem fab2_w1:wayF fab2 0 1 5=some [0]:=by decide +kernel
theorem fab2_w2:wayF fab2 0 2 5=none:=by decide +kernel
theorem awake14_any:AFn Tryz.prog 14 0 [] mt (.base (.bool true)) mt:=by
 refine AFn.eq Tryz.func14 rfl rfl (Nat.le_of_ble_eq_true rfl) ?_
 have h1:=way_any fab2 fab2_s fab2_e 0 1 5
 have h2:=way_any fab2 fab2_s fab2_e 0 2 5
 rw [fab2_w1] at h1
 rw [fab2_w2] at h2
 have h3:=hash_any [1,1,0,0,0,0] [0,0,0,0,0,2] rfl rfl (by unfold IsBy;decide) (by unfold IsBy;decide)
 refine Wq<|qW 0 1 rfl<|qA rfl<|Nl<|Wq<|Wd 5 12 (by decide) rfl mixed rfl<|Od rfl rfl (Bs rfl ty99 (.cons rfl rfl rfl rfl (Sl rfl) (.cons rfl rfl rfl rfl (Sl rfl) (.cons rfl rfl rfl rfl (Sl rfl) .nil))))<|Od rfl rfl (LO.buildSlice rfl ty32 ty99 (by decide) (by decide) (.cons rfl rfl rfl rfl (Sl rfl) .nil))<|Od rfl rfl (LO.makeSlice rfl rfl rfl rfl rfl ty33 ty4 (by decide) (by omega) (by decide) (by decide))<|Od rfl rfl (LO.makeSlice rfl rfl rfl rfl rfl ty33 ty4 (by decide) (by omega) (by decide) (by decide))<|Od rfl rfl (Bs rfl ty35 (.cons rfl rfl rfl rfl (Sl rfl) (.cons rfl rfl rfl rfl (Sl rfl) (.cons rfl rfl rfl rfl (Sl rfl) (.cons rfl rfl rfl rfl (Sl rfl) .nil)))))<|qB rfl ty35<|qS rfl ty35 (Sl rfl) rfl<|Nl ⟨by kernel_rfl,(Wv (q:=10) (j:=1) (r:=6) rfl rfl (by decide) rfl (Tl rfl) rfl (Sl rfl)<|Wv (q:=10) (j:=2) (r:=7) rfl rfl (by decide) rfl (Tl rfl) rfl (Sl rfl)<|Wv (q:=10) (j:=3) (r:=8) rfl rfl (by decide) rfl (Tl rfl) rfl (Sl rfl)<|Wq<|qW 16 23 rfl<|qG rfl ty35 rfl (Tl rfl)<|qY rfl (h1) fok44 rfl<|qM rfl<|qX rfl<|qX rfl<|qA rfl<|qA rfl<|Nl<|Wq<|qW 27 34 rfl<|qG rfl ty35 rfl (Tl rfl)<|qY rfl (h2) fok44 rfl<|qM rfl<|qX rfl<|qX rfl<|qA rfl<|qA rfl<|Nl<|Wq<|qW 38 61 rfl<|qM rfl<|qM rfl<|gM rfl rfl<|gH rfl rfl ty27<|gE rfl rfl<|qT rfl rfl rfl<|qM rfl<|gM rfl rfl<|qU rfl rfl rfl (Ii rfl rfl rfl rfl rfl ty27 ty3 (by decide))<|qU rfl rfl rfl (Li rfl rfl rfl ty3 rfl)<|gE rfl rfl<|qT rfl rfl rfl<|qM rfl<|gM rfl rfl<|gO rfl rfl<|qT rfl rfl rfl<|qM rfl<|qU rfl rfl rfl (LO.build_ar rfl ty23 ty5 (.cons rfl rfl rfl rfl (Sl rfl) (.cons rfl rfl rfl rfl (Sl rfl) .nil)))<|qU rfl rfl rfl (LO.build_ar rfl ty23 ty5 (.cons rfl rfl rfl rfl (Sl rfl) (.cons rfl rfl rfl rfl (Sl rfl) (.cons rfl rfl rfl rfl (Sl rfl) (.cons rfl rfl rfl rfl (Sl rfl) (.cons rfl rfl rfl rfl (Sl rfl) (.cons rfl rfl rfl rfl (Sl rfl) .nil)))))))<|gY rfl rfl (h3) fok45 rfl<|gE rfl rfl<|qT rfl rfl rfl<|qA rfl<|Nl<|Wz ⟨.inl rfl,_,mt,Rc (Rt rfl) (Rv),aM,?_⟩)⟩
 exact ⟨rfl,rfl⟩
theorem FabOK.ends {f:Fab} (h:FabOK f):EndsIn f:=fun i l hl=>by
 obtain ⟨h1,h2,h3,h4,_⟩:=h.links l (List.mem_of_getElem? hl)
 have:=h.dead
 exact ⟨h1,by omega,h3,by omega⟩
theorem wayL_len (f:Fab) (d:List Int) (h:Int) (m:Nat) (at_:Int):(wayL f d h m at_).length=m:=by
 induction m generalizing at_ with
 | zero=>rfl
 | succ m ih=>show (_::wayL f d h m _).length=m + 1;rw [List.length_cons,ih]
theorem wayF_len {f:Fab} (hf:FabS f) (frm to h:Int):((wayF f frm to h).getD []).length≤8:=by
 unfold wayF
 split
 ·rename_i h0
  rw [Option.getD_some,wayL_len]
  obtain ⟨h1,h2⟩:=gI_range h0
  rw [dist_len] at h2
  have:=dist_lt f to frm (by omega)
  have:=hf.n8
  omega
 ·simp
end Go.Proofs.YtlcndmciognneaaGreatDoor
