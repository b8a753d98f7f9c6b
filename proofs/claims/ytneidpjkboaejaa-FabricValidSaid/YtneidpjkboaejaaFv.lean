/-
  Which fabrics are valid: both texts.
-/
import Derived.Test.YtneidpjkboaejaaFc
import Derived.Test.YtneidpjkboaejaaMab
namespace Go.Proofs.Ytneidpjkboaejaa
open Go.RowKit
def lnkB (f:Fab) (l:Lnk):Bool:=decide (0≤l.a) && (decide (l.a < f.sw) && (decide (0≤l.b) && (decide (l.b < f.sw) && (!(l.a == l.b) && (decide (1≤l.c) && decide (l.c≤1048576))))))
def sizeB (f:Fab):Bool:=decide (1≤f.sw) && (decide (f.sw≤8) && (decide (f.links.length≤24) && (decide (f.down.length=f.links.length) && decide ((f.dead.length:Int)=f.sw))))
def validB (f:Fab):Bool:=f.links.all (lnkB f) && sizeB f
theorem all_take_succ {α:Type} {l:List α} (p:α→Bool) {i:Nat} (h:i < l.length):(l.take (i + 1)).all p=((l.take i).all p && p l[i]):=by
 rw [List.take_add_one,List.all_append]
 simp [h]
theorem validB_bad {f:Fab} {i:Nat} (h:i < f.links.length) (hb:lnkB f f.links[i]=false):validB f=false:=by
 have:f.links.all (lnkB f)=false:=List.all_eq_false.2 ⟨f.links[i],List.getElem_mem h,by rw [hb];decide⟩
 unfold validB
 rw [this];rfl
theorem validB_all {f:Fab} (h:(f.links.take f.links.length).all (lnkB f)=true):validB f=sizeB f:=by
 rw [List.take_length] at h
 unfold validB
 rw [h];rfl
theorem valid_any (f:Fab) (hb:f.links.length≤1000):AFn Try.prog 8 0 [.agg (fabC f)] mt (.base (.bool (validB f))) mt:=by
 refine AFn.eq Try.func8 rfl rfl (Nat.le_of_ble_eq_true rfl)<|Wq<|qW 0 2 rfl<|qC rfl<|qA rfl<|Nl<|Wq<|Wq<|qW 6 10 rfl<|qF rfl ty25 rfl<|qL rfl ty22 rfl<|qH rfl ty22<|qM rfl<|Nl<|Wb<|W.rename [(0,0)] 1 (T':=up (up (up (up mt 1 (some (.own 0 0))) 6 (some (.isl (lnksC f.links) f.links.length))) 7 (some (.base (.int .i64 (f.links.length:Int))))) 8 (some (.base (.int .i64 (0:Int))))) (H':=up mt 0 (some (fabC f))) (by decide) ?_ ?_ ?_
 ·exact aU (lR rfl) (aU (lR rfl) (aU (lR rfl) (aU (lI rfl) aM)))
 ·exact aU (kR rfl) aM
 refine W.loop_ind (α:=Nat) (fun x=>f.links.length - x) 1 (fun x=>up (up (up (up mt 1 (some (.own 0 0))) 6 (some (.isl (lnksC f.links) f.links.length))) 7 (some (.base (.int .i64 (f.links.length:Int))))) 8 (some (.base (.int .i64 (x:Int))))) (fun x=>up mt 0 (some (fabC f))) (fun x=>x≤f.links.length∧(f.links.take x).all (lnkB f)=true) 0 (show 0≤f.links.length∧(f.links.take 0).all (lnkB f)=true from ⟨Nat.zero_le _,rfl⟩) ?_
 rintro i hIA ihA
 try (dsimp only at hIA)
 try dsimp only
 obtain ⟨hi,hall⟩:=hIA
 by_cases hc:i < f.links.length
 ·have g1:decide ((i:Int) < (f.links.length:Int))=true:=decide_eq_true (by omega)
  refine Wq<|qW 14 15 rfl<|qK rfl<|Nl<|Wq<|Wt rfl ‹_›<|Wu<|Wq<|Wb<|Wq<|qW 19 23 rfl<|qJ rfl rfl ty22 ty38 (by omega)<|Od rfl rfl (Lg rfl rfl ty38 rfl (lnksC_tk hc))<|qB rfl ty38<|qS rfl ty38 (Sl rfl) rfl<|Nl ?_
  by_cases t0:f.links[i].a < 0
  ·have ht0:decide (f.links[i].a < 0)=true:=decide_eq_true t0
   refine Wq<|qW 27 66 rfl<|qF rfl ty38 rfl<|qL rfl ty3 rfl<|qK rfl<|qM rfl<|qD rfl ‹_› rfl<|qD rfl ‹_› rfl<|qD rfl ‹_› rfl<|qD rfl ‹_› rfl<|qD rfl ‹_› rfl<|qT rfl ‹_› rfl<|qM rfl<|qD rfl rfl rfl<|qD rfl rfl rfl<|qD rfl rfl rfl<|qT rfl rfl rfl<|qM rfl<|qD rfl rfl rfl<|qD rfl rfl rfl<|qD rfl rfl rfl<|qD rfl rfl rfl<|qD rfl rfl rfl<|qT rfl rfl rfl<|qM rfl<|qD rfl rfl rfl<|qD rfl rfl rfl<|qD rfl rfl rfl<|qD rfl rfl rfl<|qD rfl rfl rfl<|qT rfl rfl rfl<|qM rfl<|qD rfl rfl rfl<|qD rfl rfl rfl<|qD rfl rfl rfl<|qT rfl rfl rfl<|qM rfl<|qD rfl rfl rfl<|qD rfl rfl rfl<|qD rfl rfl rfl<|qT rfl rfl rfl<|Nl<|Wt rfl rfl<|Wq<|qW 70 71 rfl<|qA rfl<|Nl<|Wz ⟨.inl rfl,_,mt,Rc (Rt0 rfl) (Rv),aM,?_⟩
   exact ⟨by rw [validB_bad hc (by unfold lnkB;simp;omega)];rfl,rfl⟩
  ·have ht0:decide (f.links[i].a < 0)=false:=decide_eq_false t0
   by_cases t1:f.links[i].a ≥ f.sw
   ·have ht1:decide (f.links[i].a ≥ f.sw)=true:=decide_eq_true t1
    refine Wq<|qW 27 66 rfl<|qF rfl ty38 rfl<|qL rfl ty3 rfl<|qK rfl<|qM rfl<|gF rfl ‹_› ty38 rfl<|gL rfl ‹_› ty3 rfl<|gF rfl ‹_› ty25 rfl<|gL rfl ‹_› ty3 rfl<|gGe rfl ‹_›<|qP rfl ‹_› rfl<|qM rfl<|qD rfl ‹_› rfl<|qD rfl ‹_› rfl<|qD rfl ‹_› rfl<|qT rfl ‹_› rfl<|qM rfl<|qD rfl rfl rfl<|qD rfl rfl rfl<|qD rfl rfl rfl<|qD rfl rfl rfl<|qD rfl rfl rfl<|qT rfl rfl rfl<|qM rfl<|qD rfl rfl rfl<|qD rfl rfl rfl<|qD rfl rfl rfl<|qD rfl rfl rfl<|qD rfl rfl rfl<|qT rfl rfl rfl<|qM rfl<|qD rfl rfl rfl<|qD rfl rfl rfl<|qD rfl rfl rfl<|qT rfl rfl rfl<|qM rfl<|qD rfl rfl rfl<|qD rfl rfl rfl<|qD rfl rfl rfl<|qT rfl rfl rfl<|Nl<|Wt rfl rfl<|Wq<|qW 70 71 rfl<|qA rfl<|Nl<|Wz ⟨.inl rfl,_,mt,Rc (Rt0 rfl) (Rv),aM,?_⟩
    exact ⟨by rw [validB_bad hc (by unfold lnkB;simp;omega)];rfl,rfl⟩
   ·have ht1:decide (f.links[i].a ≥ f.sw)=false:=decide_eq_false t1
    by_cases t2:f.links[i].b < 0
    ·have ht2:decide (f.links[i].b < 0)=true:=decide_eq_true t2
     refine Wq<|qW 27 66 rfl<|qF rfl ty38 rfl<|qL rfl ty3 rfl<|qK rfl<|qM rfl<|gF rfl ‹_› ty38 rfl<|gL rfl ‹_› ty3 rfl<|gF rfl ‹_› ty25 rfl<|gL rfl ‹_› ty3 rfl<|gGe rfl ‹_›<|qP rfl ‹_› rfl<|qM rfl<|gF rfl ‹_› ty38 rfl<|gL rfl ‹_› ty3 rfl<|gK rfl ‹_›<|qP rfl ‹_› rfl<|qM rfl<|qD rfl ‹_› rfl<|qD rfl ‹_› rfl<|qD rfl ‹_› rfl<|qD rfl ‹_› rfl<|qD rfl ‹_› rfl<|qT rfl ‹_› rfl<|qM rfl<|qD rfl rfl rfl<|qD rfl rfl rfl<|qD rfl rfl rfl<|qD rfl rfl rfl<|qD rfl rfl rfl<|qT rfl rfl rfl<|qM rfl<|qD rfl rfl rfl<|qD rfl rfl rfl<|qD rfl rfl rfl<|qT rfl rfl rfl<|qM rfl<|qD rfl rfl rfl<|qD rfl rfl rfl<|qD rfl rfl rfl<|qT rfl rfl rfl<|Nl<|Wt rfl rfl<|Wq<|qW 70 71 rfl<|qA rfl<|Nl<|Wz ⟨.inl rfl,_,mt,Rc (Rt0 rfl) (Rv),aM,?_⟩
     exact ⟨by rw [validB_bad hc (by unfold lnkB;simp;omega)];rfl,rfl⟩
    ·have ht2:decide (f.links[i].b < 0)=false:=decide_eq_false t2
     by_cases t3:f.links[i].b ≥ f.sw
     ·have ht3:decide (f.links[i].b ≥ f.sw)=true:=decide_eq_true t3
      refine Wq<|qW 27 66 rfl<|qF rfl ty38 rfl<|qL rfl ty3 rfl<|qK rfl<|qM rfl<|gF rfl ‹_› ty38 rfl<|gL rfl ‹_› ty3 rfl<|gF rfl ‹_› ty25 rfl<|gL rfl ‹_› ty3 rfl<|gGe rfl ‹_›<|qP rfl ‹_› rfl<|qM rfl<|gF rfl ‹_› ty38 rfl<|gL rfl ‹_› ty3 rfl<|gK rfl ‹_›<|qP rfl ‹_› rfl<|qM rfl<|gF rfl ‹_› ty38 rfl<|gL rfl ‹_› ty3 rfl<|gF rfl ‹_› ty25 rfl<|gL rfl ‹_› ty3 rfl<|gGe rfl ‹_›<|qP rfl ‹_› rfl<|qM rfl<|qD rfl ‹_› rfl<|qD rfl ‹_› rfl<|qD rfl ‹_› rfl<|qD rfl ‹_› rfl<|qD rfl ‹_› rfl<|qT rfl ‹_› rfl<|qM rfl<|qD rfl rfl rfl<|qD rfl rfl rfl<|qD rfl rfl rfl<|qT rfl rfl rfl<|qM rfl<|qD rfl rfl rfl<|qD rfl rfl rfl<|qD rfl rfl rfl<|qT rfl rfl rfl<|Nl<|Wt rfl rfl<|Wq<|qW 70 71 rfl<|qA rfl<|Nl<|Wz ⟨.inl rfl,_,mt,Rc (Rt0 rfl) (Rv),aM,?_⟩
      exact ⟨by rw [validB_bad hc (by unfold lnkB;simp;omega)];rfl,rfl⟩
     ·have ht3:decide (f.links[i].b ≥ f.sw)=false:=decide_eq_false t3
      by_cases t4:f.links[i].a=f.links[i].b
      ·have ht4:(f.links[i].a == f.links[i].b)=true:=by simpa using t4
       refine Wq<|qW 27 66 rfl<|qF rfl ty38 rfl<|qL rfl ty3 rfl<|qK rfl<|qM rfl<|gF rfl ‹_› ty38 rfl<|gL rfl ‹_› ty3 rfl<|gF rfl ‹_› ty25 rfl<|gL rfl ‹_› ty3 rfl<|gGe rfl ‹_›<|qP rfl ‹_› rfl<|qM rfl<|gF rfl ‹_› ty38 rfl<|gL rfl ‹_› ty3 rfl<|gK rfl ‹_›<|qP rfl ‹_› rfl<|qM rfl<|gF rfl ‹_› ty38 rfl<|gL rfl ‹_› ty3 rfl<|gF rfl ‹_› ty25 rfl<|gL rfl ‹_› ty3 rfl<|gGe rfl ‹_›<|qP rfl ‹_› rfl<|qM rfl<|gF rfl ‹_› ty38 rfl<|gL rfl ‹_› ty3 rfl<|gF rfl ‹_› ty38 rfl<|gL rfl ‹_› ty3 rfl<|gE rfl ‹_›<|qP rfl ‹_› rfl<|qM rfl<|qD rfl ‹_› rfl<|qD rfl ‹_› rfl<|qD rfl ‹_› rfl<|qT rfl ‹_› rfl<|qM rfl<|qD rfl rfl rfl<|qD rfl rfl rfl<|qD rfl rfl rfl<|qT rfl rfl rfl<|Nl<|Wt rfl rfl<|Wq<|qW 70 71 rfl<|qA rfl<|Nl<|Wz ⟨.inl rfl,_,mt,Rc (Rt0 rfl) (Rv),aM,?_⟩
       exact ⟨by rw [validB_bad hc (by unfold lnkB;simp;omega)];rfl,rfl⟩
      ·have ht4:(f.links[i].a == f.links[i].b)=false:=by simpa using t4
       by_cases t5:f.links[i].c < 1
       ·have ht5:decide (f.links[i].c < 1)=true:=decide_eq_true t5
        refine Wq<|qW 27 66 rfl<|qF rfl ty38 rfl<|qL rfl ty3 rfl<|qK rfl<|qM rfl<|gF rfl ‹_› ty38 rfl<|gL rfl ‹_› ty3 rfl<|gF rfl ‹_› ty25 rfl<|gL rfl ‹_› ty3 rfl<|gGe rfl ‹_›<|qP rfl ‹_› rfl<|qM rfl<|gF rfl ‹_› ty38 rfl<|gL rfl ‹_› ty3 rfl<|gK rfl ‹_›<|qP rfl ‹_› rfl<|qM rfl<|gF rfl ‹_› ty38 rfl<|gL rfl ‹_› ty3 rfl<|gF rfl ‹_› ty25 rfl<|gL rfl ‹_› ty3 rfl<|gGe rfl ‹_›<|qP rfl ‹_› rfl<|qM rfl<|gF rfl ‹_› ty38 rfl<|gL rfl ‹_› ty3 rfl<|gF rfl ‹_› ty38 rfl<|gL rfl ‹_› ty3 rfl<|gE rfl ‹_›<|qP rfl ‹_› rfl<|qM rfl<|gF rfl ‹_› ty38 rfl<|gL rfl ‹_› ty3 rfl<|gK rfl ‹_›<|qP rfl ‹_› rfl<|qM rfl<|qD rfl ‹_› rfl<|qD rfl ‹_› rfl<|qD rfl ‹_› rfl<|qT rfl ‹_› rfl<|Nl<|Wt rfl rfl<|Wq<|qW 70 71 rfl<|qA rfl<|Nl<|Wz ⟨.inl rfl,_,mt,Rc (Rt0 rfl) (Rv),aM,?_⟩
        exact ⟨by rw [validB_bad hc (by unfold lnkB;simp;omega)];rfl,rfl⟩
       ·have ht5:decide (f.links[i].c < 1)=false:=decide_eq_false t5
        by_cases t6:f.links[i].c > 1048576
        ·have ht6:decide (f.links[i].c > 1048576)=true:=decide_eq_true t6
         refine Wq<|qW 27 66 rfl<|qF rfl ty38 rfl<|qL rfl ty3 rfl<|qK rfl<|qM rfl<|gF rfl ‹_› ty38 rfl<|gL rfl ‹_› ty3 rfl<|gF rfl ‹_› ty25 rfl<|gL rfl ‹_› ty3 rfl<|gGe rfl ‹_›<|qP rfl ‹_› rfl<|qM rfl<|gF rfl ‹_› ty38 rfl<|gL rfl ‹_› ty3 rfl<|gK rfl ‹_›<|qP rfl ‹_› rfl<|qM rfl<|gF rfl ‹_› ty38 rfl<|gL rfl ‹_› ty3 rfl<|gF rfl ‹_› ty25 rfl<|gL rfl ‹_› ty3 rfl<|gGe rfl ‹_›<|qP rfl ‹_› rfl<|qM rfl<|gF rfl ‹_› ty38 rfl<|gL rfl ‹_› ty3 rfl<|gF rfl ‹_› ty38 rfl<|gL rfl ‹_› ty3 rfl<|gE rfl ‹_›<|qP rfl ‹_› rfl<|qM rfl<|gF rfl ‹_› ty38 rfl<|gL rfl ‹_› ty3 rfl<|gK rfl ‹_›<|qP rfl ‹_› rfl<|qM rfl<|gF rfl ‹_› ty38 rfl<|gL rfl ‹_› ty3 rfl<|gGt rfl ‹_›<|qP rfl ‹_› rfl<|Nl<|Wt rfl ‹_›<|Wq<|qW 70 71 rfl<|qA rfl<|Nl<|Wz ⟨.inl rfl,_,mt,Rc (Rt0 rfl) (Rv),aM,?_⟩
         exact ⟨by rw [validB_bad hc (by unfold lnkB;simp;omega)];rfl,rfl⟩
        ·have ht6:decide (f.links[i].c > 1048576)=false:=decide_eq_false t6
         refine Wq<|qW 27 66 rfl<|qF rfl ty38 rfl<|qL rfl ty3 rfl<|qK rfl<|qM rfl<|gF rfl ‹_› ty38 rfl<|gL rfl ‹_› ty3 rfl<|gF rfl ‹_› ty25 rfl<|gL rfl ‹_› ty3 rfl<|gGe rfl ‹_›<|qP rfl ‹_› rfl<|qM rfl<|gF rfl ‹_› ty38 rfl<|gL rfl ‹_› ty3 rfl<|gK rfl ‹_›<|qP rfl ‹_› rfl<|qM rfl<|gF rfl ‹_› ty38 rfl<|gL rfl ‹_› ty3 rfl<|gF rfl ‹_› ty25 rfl<|gL rfl ‹_› ty3 rfl<|gGe rfl ‹_›<|qP rfl ‹_› rfl<|qM rfl<|gF rfl ‹_› ty38 rfl<|gL rfl ‹_› ty3 rfl<|gF rfl ‹_› ty38 rfl<|gL rfl ‹_› ty3 rfl<|gE rfl ‹_›<|qP rfl ‹_› rfl<|qM rfl<|gF rfl ‹_› ty38 rfl<|gL rfl ‹_› ty3 rfl<|gK rfl ‹_›<|qP rfl ‹_› rfl<|qM rfl<|gF rfl ‹_› ty38 rfl<|gL rfl ‹_› ty3 rfl<|gGt rfl ‹_›<|qP rfl ‹_› rfl<|Nl<|Wo rfl ‹_›<|Wu<|qW 75 77 rfl<|qZ rfl (iW _ (by omega))<|qM rfl<|Nl<|WL.rename [(0,0)] 1 (by decide) ?_ ?_ (ihA (i + 1) (show f.links.length - (i + 1) < f.links.length - i from by omega) (show (i + 1)≤f.links.length∧(f.links.take (i + 1)).all (lnkB f)=true from ⟨by omega,by rw [all_take_succ _ hc,hall];unfold lnkB;simp;omega⟩))
         ·exact aU (lR rfl) (aU (lR rfl) (aU (lR rfl) (aU (lI rfl) aM)))
         ·exact aU (kR rfl) aM
 ·have g1:decide ((i:Int) < (f.links.length:Int))=false:=decide_eq_false (by omega)
  refine Wq<|qW 14 15 rfl<|qK rfl<|Nl<|Wq<|Wo rfl ‹_›<|Wx ?_
  obtain rfl:i=f.links.length:=by omega
  by_cases s0:f.sw ≥ 1
  ·have hs0:decide (f.sw ≥ 1)=true:=decide_eq_true s0
   by_cases s1:f.sw≤8
   ·have hs1:decide (f.sw≤8)=true:=decide_eq_true s1
    by_cases s2:(f.links.length:Int)≤24
    ·have hs2:decide ((f.links.length:Int)≤24)=true:=decide_eq_true s2
     by_cases s3:(f.down.length:Int)=f.links.length
     ·have hs3:((f.down.length:Int) == (f.links.length:Int))=true:=by simpa using s3
      by_cases s4:(f.dead.length:Int)=f.sw
      ·have hs4:((f.dead.length:Int) == f.sw)=true:=by simpa using s4
       refine Wq<|qW 81 113 rfl<|qF rfl ty25 rfl<|qL rfl ty3 rfl<|qGe rfl<|qM rfl<|gF rfl ‹_› ty25 rfl<|gL rfl ‹_› ty3 rfl<|gLe rfl ‹_›<|qT rfl ‹_› rfl<|qM rfl<|gF rfl ‹_› ty25 rfl<|gL rfl ‹_› ty22 rfl<|gH rfl ‹_› ty22<|gLe rfl ‹_›<|qT rfl ‹_› rfl<|qM rfl<|gF rfl ‹_› ty25 rfl<|gL rfl ‹_› ty23 rfl<|gH rfl ‹_› ty23<|gF rfl ‹_› ty25 rfl<|gL rfl ‹_› ty22 rfl<|gH rfl ‹_› ty22<|gE rfl ‹_›<|qT rfl ‹_› rfl<|qM rfl<|gF rfl ‹_› ty25 rfl<|gL rfl ‹_› ty23 rfl<|gH rfl ‹_› ty23<|gF rfl ‹_› ty25 rfl<|gL rfl ‹_› ty3 rfl<|gE rfl ‹_›<|qT rfl ‹_› rfl<|qA rfl<|Nl<|Wz ⟨.inl rfl,_,mt,Rc (Rt0 rfl) (Rv),aM,?_⟩
       have hval:sizeB f=true:=by unfold sizeB;simp;omega
       exact ⟨by rw [validB_all hall,hval];first|rfl|(show AV.base (.bool _)=_;rw [hs4]),rfl⟩
      ·have hs4:((f.dead.length:Int) == f.sw)=false:=by simpa using s4
       refine Wq<|qW 81 113 rfl<|qF rfl ty25 rfl<|qL rfl ty3 rfl<|qGe rfl<|qM rfl<|gF rfl ‹_› ty25 rfl<|gL rfl ‹_› ty3 rfl<|gLe rfl ‹_›<|qT rfl ‹_› rfl<|qM rfl<|gF rfl ‹_› ty25 rfl<|gL rfl ‹_› ty22 rfl<|gH rfl ‹_› ty22<|gLe rfl ‹_›<|qT rfl ‹_› rfl<|qM rfl<|gF rfl ‹_› ty25 rfl<|gL rfl ‹_› ty23 rfl<|gH rfl ‹_› ty23<|gF rfl ‹_› ty25 rfl<|gL rfl ‹_› ty22 rfl<|gH rfl ‹_› ty22<|gE rfl ‹_›<|qT rfl ‹_› rfl<|qM rfl<|gF rfl ‹_› ty25 rfl<|gL rfl ‹_› ty23 rfl<|gH rfl ‹_› ty23<|gF rfl ‹_› ty25 rfl<|gL rfl ‹_› ty3 rfl<|gE rfl ‹_›<|qT rfl ‹_› rfl<|qA rfl<|Nl<|Wz ⟨.inl rfl,_,mt,Rc (Rt0 rfl) (Rv),aM,?_⟩
       have hval:sizeB f=false:=by unfold sizeB;simp;omega
       exact ⟨by rw [validB_all hall,hval];first|rfl|(show AV.base (.bool _)=_;rw [hs4]),rfl⟩
     ·have hs3:((f.down.length:Int) == (f.links.length:Int))=false:=by simpa using s3
      refine Wq<|qW 81 113 rfl<|qF rfl ty25 rfl<|qL rfl ty3 rfl<|qGe rfl<|qM rfl<|gF rfl ‹_› ty25 rfl<|gL rfl ‹_› ty3 rfl<|gLe rfl ‹_›<|qT rfl ‹_› rfl<|qM rfl<|gF rfl ‹_› ty25 rfl<|gL rfl ‹_› ty22 rfl<|gH rfl ‹_› ty22<|gLe rfl ‹_›<|qT rfl ‹_› rfl<|qM rfl<|gF rfl ‹_› ty25 rfl<|gL rfl ‹_› ty23 rfl<|gH rfl ‹_› ty23<|gF rfl ‹_› ty25 rfl<|gL rfl ‹_› ty22 rfl<|gH rfl ‹_› ty22<|gE rfl ‹_›<|qT rfl ‹_› rfl<|qM rfl<|qD rfl ‹_› rfl<|qD rfl ‹_› rfl<|qD rfl ‹_› rfl<|qD rfl ‹_› rfl<|qD rfl ‹_› rfl<|qD rfl ‹_› rfl<|qP rfl ‹_› rfl<|qA rfl<|Nl<|Wz ⟨.inl rfl,_,mt,Rc (Rt0 rfl) (Rv),aM,?_⟩
      have hval:sizeB f=false:=by unfold sizeB;simp;omega
      exact ⟨by rw [validB_all hall,hval];first|rfl|(show AV.base (.bool _)=_;rw [hs4]),rfl⟩
    ·have hs2:decide ((f.links.length:Int)≤24)=false:=decide_eq_false s2
     refine Wq<|qW 81 113 rfl<|qF rfl ty25 rfl<|qL rfl ty3 rfl<|qGe rfl<|qM rfl<|gF rfl ‹_› ty25 rfl<|gL rfl ‹_› ty3 rfl<|gLe rfl ‹_›<|qT rfl ‹_› rfl<|qM rfl<|gF rfl ‹_› ty25 rfl<|gL rfl ‹_› ty22 rfl<|gH rfl ‹_› ty22<|gLe rfl ‹_›<|qT rfl ‹_› rfl<|qM rfl<|qD rfl ‹_› rfl<|qD rfl ‹_› rfl<|qD rfl ‹_› rfl<|qD rfl ‹_› rfl<|qD rfl ‹_› rfl<|qD rfl ‹_› rfl<|qD rfl ‹_› rfl<|qP rfl ‹_› rfl<|qM rfl<|qD rfl rfl rfl<|qD rfl rfl rfl<|qD rfl rfl rfl<|qD rfl rfl rfl<|qD rfl rfl rfl<|qD rfl rfl rfl<|qP rfl rfl rfl<|qA rfl<|Nl<|Wz ⟨.inl rfl,_,mt,Rc (Rt0 rfl) (Rv),aM,?_⟩
     have hval:sizeB f=false:=by unfold sizeB;simp;omega
     exact ⟨by rw [validB_all hall,hval];first|rfl|(show AV.base (.bool _)=_;rw [hs4]),rfl⟩
   ·have hs1:decide (f.sw≤8)=false:=decide_eq_false s1
    refine Wq<|qW 81 113 rfl<|qF rfl ty25 rfl<|qL rfl ty3 rfl<|qGe rfl<|qM rfl<|gF rfl ‹_› ty25 rfl<|gL rfl ‹_› ty3 rfl<|gLe rfl ‹_›<|qT rfl ‹_› rfl<|qM rfl<|qD rfl ‹_› rfl<|qD rfl ‹_› rfl<|qD rfl ‹_› rfl<|qD rfl ‹_› rfl<|qP rfl ‹_› rfl<|qM rfl<|qD rfl rfl rfl<|qD rfl rfl rfl<|qD rfl rfl rfl<|qD rfl rfl rfl<|qD rfl rfl rfl<|qD rfl rfl rfl<|qD rfl rfl rfl<|qP rfl rfl rfl<|qM rfl<|qD rfl rfl rfl<|qD rfl rfl rfl<|qD rfl rfl rfl<|qD rfl rfl rfl<|qD rfl rfl rfl<|qD rfl rfl rfl<|qP rfl rfl rfl<|qA rfl<|Nl<|Wz ⟨.inl rfl,_,mt,Rc (Rt0 rfl) (Rv),aM,?_⟩
    have hval:sizeB f=false:=by unfold sizeB;simp;omega
    exact ⟨by rw [validB_all hall,hval];first|rfl|(show AV.base (.bool _)=_;rw [hs4]),rfl⟩
  ·have hs0:decide (f.sw ≥ 1)=false:=decide_eq_false s0
   refine Wq<|qW 81 113 rfl<|qF rfl ty25 rfl<|qL rfl ty3 rfl<|qGe rfl<|qM rfl<|qD rfl ‹_› rfl<|qD rfl ‹_› rfl<|qD rfl ‹_› rfl<|qP rfl ‹_› rfl<|qM rfl<|qD rfl rfl rfl<|qD rfl rfl rfl<|qD rfl rfl rfl<|qD rfl rfl rfl<|qP rfl rfl rfl<|qM rfl<|qD rfl rfl rfl<|qD rfl rfl rfl<|qD rfl rfl rfl<|qD rfl rfl rfl<|qD rfl rfl rfl<|qD rfl rfl rfl<|qD rfl rfl rfl<|qP rfl rfl rfl<|qM rfl<|qD rfl rfl rfl<|qD rfl rfl rfl<|qD rfl rfl rfl<|qD rfl rfl rfl<|qD rfl rfl rfl<|qD rfl rfl rfl<|qP rfl rfl rfl<|qA rfl<|Nl<|Wz ⟨.inl rfl,_,mt,Rc (Rt0 rfl) (Rv),aM,?_⟩
   have hval:sizeB f=false:=by unfold sizeB;simp;omega
   exact ⟨by rw [validB_all hall,hval];first|rfl|(show AV.base (.bool _)=_;rw [hs4]),rfl⟩
theorem validX_any (f:Fab) (hb:f.links.length≤1000):AFn Try.prog 9 0 [.agg (fabC f)] mt (.base (.bool (validB f))) mt:=by
 refine AFn.eq Try.func9 rfl rfl (Nat.le_of_ble_eq_true rfl)<|Wq<|qW 0 2 rfl<|qC rfl<|qA rfl<|Nl ?_
 by_cases s0:f.sw < 1
 ·have hs0:decide (f.sw < 1)=true:=decide_eq_true s0
  refine Wq<|Wq<|qW 6 37 rfl<|qF rfl ty25 rfl<|qL rfl ty3 rfl<|qK rfl<|qM rfl<|qD rfl ‹_› rfl<|qD rfl ‹_› rfl<|qD rfl ‹_› rfl<|qT rfl ‹_› rfl<|qM rfl<|qD rfl rfl rfl<|qD rfl rfl rfl<|qD rfl rfl rfl<|qD rfl rfl rfl<|qT rfl rfl rfl<|qM rfl<|qD rfl rfl rfl<|qD rfl rfl rfl<|qD rfl rfl rfl<|qD rfl rfl rfl<|qD rfl rfl rfl<|qD rfl rfl rfl<|qD rfl rfl rfl<|qT rfl rfl rfl<|qM rfl<|qD rfl rfl rfl<|qD rfl rfl rfl<|qD rfl rfl rfl<|qD rfl rfl rfl<|qD rfl rfl rfl<|qD rfl rfl rfl<|qT rfl rfl rfl<|Nl<|Wt rfl rfl<|Wq<|qW 41 42 rfl<|qA rfl<|Nl<|Wz ⟨.inl rfl,_,mt,Rc (Rt0 rfl) (Rv),aM,?_⟩
  exact ⟨by unfold validB;rw [show sizeB f=false from by unfold sizeB;simp;omega,Bool.and_false];rfl,rfl⟩
 ·have hs0:decide (f.sw < 1)=false:=decide_eq_false s0
  by_cases s1:f.sw > 8
  ·have hs1:decide (f.sw > 8)=true:=decide_eq_true s1
   refine Wq<|Wq<|qW 6 37 rfl<|qF rfl ty25 rfl<|qL rfl ty3 rfl<|qK rfl<|qM rfl<|gF rfl ‹_› ty25 rfl<|gL rfl ‹_› ty3 rfl<|gGt rfl ‹_›<|qP rfl ‹_› rfl<|qM rfl<|qD rfl ‹_› rfl<|qD rfl ‹_› rfl<|qD rfl ‹_› rfl<|qD rfl ‹_› rfl<|qT rfl ‹_› rfl<|qM rfl<|qD rfl rfl rfl<|qD rfl rfl rfl<|qD rfl rfl rfl<|qD rfl rfl rfl<|qD rfl rfl rfl<|qD rfl rfl rfl<|qD rfl rfl rfl<|qT rfl rfl rfl<|qM rfl<|qD rfl rfl rfl<|qD rfl rfl rfl<|qD rfl rfl rfl<|qD rfl rfl rfl<|qD rfl rfl rfl<|qD rfl rfl rfl<|qT rfl rfl rfl<|Nl<|Wt rfl rfl<|Wq<|qW 41 42 rfl<|qA rfl<|Nl<|Wz ⟨.inl rfl,_,mt,Rc (Rt0 rfl) (Rv),aM,?_⟩
   exact ⟨by unfold validB;rw [show sizeB f=false from by unfold sizeB;simp;omega,Bool.and_false];rfl,rfl⟩
  ·have hs1:decide (f.sw > 8)=false:=decide_eq_false s1
   by_cases s2:(f.links.length:Int) > 24
   ·have hs2:decide ((f.links.length:Int) > 24)=true:=decide_eq_true s2
    refine Wq<|Wq<|qW 6 37 rfl<|qF rfl ty25 rfl<|qL rfl ty3 rfl<|qK rfl<|qM rfl<|gF rfl ‹_› ty25 rfl<|gL rfl ‹_› ty3 rfl<|gGt rfl ‹_›<|qP rfl ‹_› rfl<|qM rfl<|gF rfl ‹_› ty25 rfl<|gL rfl ‹_› ty22 rfl<|gH rfl ‹_› ty22<|gGt rfl ‹_›<|qP rfl ‹_› rfl<|qM rfl<|qD rfl ‹_› rfl<|qD rfl ‹_› rfl<|qD rfl ‹_› rfl<|qD rfl ‹_› rfl<|qD rfl ‹_› rfl<|qD rfl ‹_› rfl<|qD rfl ‹_› rfl<|qT rfl ‹_› rfl<|qM rfl<|qD rfl rfl rfl<|qD rfl rfl rfl<|qD rfl rfl rfl<|qD rfl rfl rfl<|qD rfl rfl rfl<|qD rfl rfl rfl<|qT rfl rfl rfl<|Nl<|Wt rfl rfl<|Wq<|qW 41 42 rfl<|qA rfl<|Nl<|Wz ⟨.inl rfl,_,mt,Rc (Rt0 rfl) (Rv),aM,?_⟩
    exact ⟨by unfold validB;rw [show sizeB f=false from by unfold sizeB;simp;omega,Bool.and_false];rfl,rfl⟩
   ·have hs2:decide ((f.links.length:Int) > 24)=false:=decide_eq_false s2
    by_cases s3:(f.down.length:Int)≠f.links.length
    ·have hs3:((f.down.length:Int) != (f.links.length:Int))=true:=by simpa using s3
     refine Wq<|Wq<|qW 6 37 rfl<|qF rfl ty25 rfl<|qL rfl ty3 rfl<|qK rfl<|qM rfl<|gF rfl ‹_› ty25 rfl<|gL rfl ‹_› ty3 rfl<|gGt rfl ‹_›<|qP rfl ‹_› rfl<|qM rfl<|gF rfl ‹_› ty25 rfl<|gL rfl ‹_› ty22 rfl<|gH rfl ‹_› ty22<|gGt rfl ‹_›<|qP rfl ‹_› rfl<|qM rfl<|gF rfl ‹_› ty25 rfl<|gL rfl ‹_› ty23 rfl<|gH rfl ‹_› ty23<|gF rfl ‹_› ty25 rfl<|gL rfl ‹_› ty22 rfl<|gH rfl ‹_› ty22<|gN rfl ‹_›<|qP rfl ‹_› rfl<|qM rfl<|qD rfl ‹_› rfl<|qD rfl ‹_› rfl<|qD rfl ‹_› rfl<|qD rfl ‹_› rfl<|qD rfl ‹_› rfl<|qD rfl ‹_› rfl<|qT rfl ‹_› rfl<|Nl<|Wt rfl rfl<|Wq<|qW 41 42 rfl<|qA rfl<|Nl<|Wz ⟨.inl rfl,_,mt,Rc (Rt0 rfl) (Rv),aM,?_⟩
     exact ⟨by unfold validB;rw [show sizeB f=false from by unfold sizeB;simp;omega,Bool.and_false];rfl,rfl⟩
    ·have hs3:((f.down.length:Int) != (f.links.length:Int))=false:=by simpa using s3
     by_cases s4:(f.dead.length:Int)≠f.sw
     ·have hs4:((f.dead.length:Int) != f.sw)=true:=by simpa using s4
      refine Wq<|Wq<|qW 6 37 rfl<|qF rfl ty25 rfl<|qL rfl ty3 rfl<|qK rfl<|qM rfl<|gF rfl ‹_› ty25 rfl<|gL rfl ‹_› ty3 rfl<|gGt rfl ‹_›<|qP rfl ‹_› rfl<|qM rfl<|gF rfl ‹_› ty25 rfl<|gL rfl ‹_› ty22 rfl<|gH rfl ‹_› ty22<|gGt rfl ‹_›<|qP rfl ‹_› rfl<|qM rfl<|gF rfl ‹_› ty25 rfl<|gL rfl ‹_› ty23 rfl<|gH rfl ‹_› ty23<|gF rfl ‹_› ty25 rfl<|gL rfl ‹_› ty22 rfl<|gH rfl ‹_› ty22<|gN rfl ‹_›<|qP rfl ‹_› rfl<|qM rfl<|gF rfl ‹_› ty25 rfl<|gL rfl ‹_› ty23 rfl<|gH rfl ‹_› ty23<|gF rfl ‹_› ty25 rfl<|gL rfl ‹_› ty3 rfl<|gN rfl ‹_›<|qP rfl ‹_› rfl<|Nl<|Wt rfl ‹_›<|Wq<|qW 41 42 rfl<|qA rfl<|Nl<|Wz ⟨.inl rfl,_,mt,Rc (Rt0 rfl) (Rv),aM,?_⟩
      exact ⟨by unfold validB;rw [show sizeB f=false from by unfold sizeB;simp;omega,Bool.and_false];rfl,rfl⟩
     ·have hs4:((f.dead.length:Int) != f.sw)=false:=by simpa using s4
      have hsz:sizeB f=true:=by unfold sizeB;simp;omega
      refine Wq<|Wq<|qW 6 37 rfl<|qF rfl ty25 rfl<|qL rfl ty3 rfl<|qK rfl<|qM rfl<|gF rfl ‹_› ty25 rfl<|gL rfl ‹_› ty3 rfl<|gGt rfl ‹_›<|qP rfl ‹_› rfl<|qM rfl<|gF rfl ‹_› ty25 rfl<|gL rfl ‹_› ty22 rfl<|gH rfl ‹_› ty22<|gGt rfl ‹_›<|qP rfl ‹_› rfl<|qM rfl<|gF rfl ‹_› ty25 rfl<|gL rfl ‹_› ty23 rfl<|gH rfl ‹_› ty23<|gF rfl ‹_› ty25 rfl<|gL rfl ‹_› ty22 rfl<|gH rfl ‹_› ty22<|gN rfl ‹_›<|qP rfl ‹_› rfl<|qM rfl<|gF rfl ‹_› ty25 rfl<|gL rfl ‹_› ty23 rfl<|gH rfl ‹_› ty23<|gF rfl ‹_› ty25 rfl<|gL rfl ‹_› ty3 rfl<|gN rfl ‹_›<|qP rfl ‹_› rfl<|Nl<|Wo rfl ‹_›<|Wu<|Wq<|Wq<|qW 46 50 rfl<|qF rfl ty25 rfl<|qL rfl ty22 rfl<|qH rfl ty22<|qM rfl<|Nl<|Wb<|W.rename [(0,0)] 1 (T':=up (up (up (up mt 1 (some (.own 0 0))) 37 (some (.isl (lnksC f.links) f.links.length))) 38 (some (.base (.int .i64 (f.links.length:Int))))) 39 (some (.base (.int .i64 (0:Int))))) (H':=up mt 0 (some (fabC f))) (by decide) ?_ ?_ ?_
      ·exact aU (lR rfl) (aU (lR rfl) (aU (lR rfl) (aU (lI rfl) aM)))
      ·exact aU (kR rfl) aM
      refine W.loop_ind (α:=Nat) (fun x=>f.links.length - x) 1 (fun x=>up (up (up (up mt 1 (some (.own 0 0))) 37 (some (.isl (lnksC f.links) f.links.length))) 38 (some (.base (.int .i64 (f.links.length:Int))))) 39 (some (.base (.int .i64 (x:Int))))) (fun x=>up mt 0 (some (fabC f))) (fun x=>x≤f.links.length∧(f.links.take x).all (lnkB f)=true) 0 (show 0≤f.links.length∧(f.links.take 0).all (lnkB f)=true from ⟨Nat.zero_le _,rfl⟩) ?_
      rintro i hIA ihA
      try (dsimp only at hIA)
      try dsimp only
      obtain ⟨hi,hall⟩:=hIA
      by_cases hc:i < f.links.length
      ·have g1:decide ((i:Int) < (f.links.length:Int))=true:=decide_eq_true (by omega)
       refine Wq<|qW 54 55 rfl<|qK rfl<|Nl<|Wq<|Wt rfl ‹_›<|Wu<|Wq<|Wb<|Wq<|qW 59 63 rfl<|qJ rfl rfl ty22 ty38 (by omega)<|Od rfl rfl (Lg rfl rfl ty38 rfl (lnksC_tk hc))<|qB rfl ty38<|qS rfl ty38 (Sl rfl) rfl<|Nl ?_
       by_cases t0:f.links[i].a=f.links[i].b
       ·have ht0:(f.links[i].a == f.links[i].b)=true:=by simpa using t0
        refine Wq<|qW 67 106 rfl<|qF rfl ty38 rfl<|qL rfl ty3 rfl<|qF rfl ty38 rfl<|qL rfl ty3 rfl<|qE rfl<|qM rfl<|qD rfl ‹_› rfl<|qD rfl ‹_› rfl<|qD rfl ‹_› rfl<|qT rfl ‹_› rfl<|qM rfl<|qD rfl rfl rfl<|qD rfl rfl rfl<|qD rfl rfl rfl<|qD rfl rfl rfl<|qD rfl rfl rfl<|qT rfl rfl rfl<|qM rfl<|qD rfl rfl rfl<|qD rfl rfl rfl<|qD rfl rfl rfl<|qT rfl rfl rfl<|qM rfl<|qD rfl rfl rfl<|qD rfl rfl rfl<|qD rfl rfl rfl<|qD rfl rfl rfl<|qD rfl rfl rfl<|qT rfl rfl rfl<|qM rfl<|qD rfl rfl rfl<|qD rfl rfl rfl<|qD rfl rfl rfl<|qT rfl rfl rfl<|qM rfl<|qD rfl rfl rfl<|qD rfl rfl rfl<|qD rfl rfl rfl<|qT rfl rfl rfl<|Nl<|Wt rfl rfl<|Wq<|qW 110 111 rfl<|qA rfl<|Nl<|Wz ⟨.inl rfl,_,mt,Rc (Rt0 rfl) (Rv),aM,?_⟩
        exact ⟨by rw [validB_bad hc (by unfold lnkB;simp;omega)];rfl,rfl⟩
       ·have ht0:(f.links[i].a == f.links[i].b)=false:=by simpa using t0
        by_cases t1:f.links[i].a < 0
        ·have ht1:decide (f.links[i].a < 0)=true:=decide_eq_true t1
         refine Wq<|qW 67 106 rfl<|qF rfl ty38 rfl<|qL rfl ty3 rfl<|qF rfl ty38 rfl<|qL rfl ty3 rfl<|qE rfl<|qM rfl<|gF rfl ‹_› ty38 rfl<|gL rfl ‹_› ty3 rfl<|gK rfl ‹_›<|qP rfl ‹_› rfl<|qM rfl<|qD rfl ‹_› rfl<|qD rfl ‹_› rfl<|qD rfl ‹_› rfl<|qD rfl ‹_› rfl<|qD rfl ‹_› rfl<|qT rfl ‹_› rfl<|qM rfl<|qD rfl rfl rfl<|qD rfl rfl rfl<|qD rfl rfl rfl<|qT rfl rfl rfl<|qM rfl<|qD rfl rfl rfl<|qD rfl rfl rfl<|qD rfl rfl rfl<|qD rfl rfl rfl<|qD rfl rfl rfl<|qT rfl rfl rfl<|qM rfl<|qD rfl rfl rfl<|qD rfl rfl rfl<|qD rfl rfl rfl<|qT rfl rfl rfl<|qM rfl<|qD rfl rfl rfl<|qD rfl rfl rfl<|qD rfl rfl rfl<|qT rfl rfl rfl<|Nl<|Wt rfl rfl<|Wq<|qW 110 111 rfl<|qA rfl<|Nl<|Wz ⟨.inl rfl,_,mt,Rc (Rt0 rfl) (Rv),aM,?_⟩
         exact ⟨by rw [validB_bad hc (by unfold lnkB;simp;omega)];rfl,rfl⟩
        ·have ht1:decide (f.links[i].a < 0)=false:=decide_eq_false t1
         by_cases t2:f.links[i].a ≥ f.sw
         ·have ht2:decide (f.links[i].a ≥ f.sw)=true:=decide_eq_true t2
          refine Wq<|qW 67 106 rfl<|qF rfl ty38 rfl<|qL rfl ty3 rfl<|qF rfl ty38 rfl<|qL rfl ty3 rfl<|qE rfl<|qM rfl<|gF rfl ‹_› ty38 rfl<|gL rfl ‹_› ty3 rfl<|gK rfl ‹_›<|qP rfl ‹_› rfl<|qM rfl<|gF rfl ‹_› ty38 rfl<|gL rfl ‹_› ty3 rfl<|gF rfl ‹_› ty25 rfl<|gL rfl ‹_› ty3 rfl<|gGe rfl ‹_›<|qP rfl ‹_› rfl<|qM rfl<|qD rfl ‹_› rfl<|qD rfl ‹_› rfl<|qD rfl ‹_› rfl<|qT rfl ‹_› rfl<|qM rfl<|qD rfl rfl rfl<|qD rfl rfl rfl<|qD rfl rfl rfl<|qD rfl rfl rfl<|qD rfl rfl rfl<|qT rfl rfl rfl<|qM rfl<|qD rfl rfl rfl<|qD rfl rfl rfl<|qD rfl rfl rfl<|qT rfl rfl rfl<|qM rfl<|qD rfl rfl rfl<|qD rfl rfl rfl<|qD rfl rfl rfl<|qT rfl rfl rfl<|Nl<|Wt rfl rfl<|Wq<|qW 110 111 rfl<|qA rfl<|Nl<|Wz ⟨.inl rfl,_,mt,Rc (Rt0 rfl) (Rv),aM,?_⟩
          exact ⟨by rw [validB_bad hc (by unfold lnkB;simp;omega)];rfl,rfl⟩
         ·have ht2:decide (f.links[i].a ≥ f.sw)=false:=decide_eq_false t2
          by_cases t3:f.links[i].b < 0
          ·have ht3:decide (f.links[i].b < 0)=true:=decide_eq_true t3
           refine Wq<|qW 67 106 rfl<|qF rfl ty38 rfl<|qL rfl ty3 rfl<|qF rfl ty38 rfl<|qL rfl ty3 rfl<|qE rfl<|qM rfl<|gF rfl ‹_› ty38 rfl<|gL rfl ‹_› ty3 rfl<|gK rfl ‹_›<|qP rfl ‹_› rfl<|qM rfl<|gF rfl ‹_› ty38 rfl<|gL rfl ‹_› ty3 rfl<|gF rfl ‹_› ty25 rfl<|gL rfl ‹_› ty3 rfl<|gGe rfl ‹_›<|qP rfl ‹_› rfl<|qM rfl<|gF rfl ‹_› ty38 rfl<|gL rfl ‹_› ty3 rfl<|gK rfl ‹_›<|qP rfl ‹_› rfl<|qM rfl<|qD rfl ‹_› rfl<|qD rfl ‹_› rfl<|qD rfl ‹_› rfl<|qD rfl ‹_› rfl<|qD rfl ‹_› rfl<|qT rfl ‹_› rfl<|qM rfl<|qD rfl rfl rfl<|qD rfl rfl rfl<|qD rfl rfl rfl<|qT rfl rfl rfl<|qM rfl<|qD rfl rfl rfl<|qD rfl rfl rfl<|qD rfl rfl rfl<|qT rfl rfl rfl<|Nl<|Wt rfl rfl<|Wq<|qW 110 111 rfl<|qA rfl<|Nl<|Wz ⟨.inl rfl,_,mt,Rc (Rt0 rfl) (Rv),aM,?_⟩
           exact ⟨by rw [validB_bad hc (by unfold lnkB;simp;omega)];rfl,rfl⟩
          ·have ht3:decide (f.links[i].b < 0)=false:=decide_eq_false t3
           by_cases t4:f.links[i].b ≥ f.sw
           ·have ht4:decide (f.links[i].b ≥ f.sw)=true:=decide_eq_true t4
            refine Wq<|qW 67 106 rfl<|qF rfl ty38 rfl<|qL rfl ty3 rfl<|qF rfl ty38 rfl<|qL rfl ty3 rfl<|qE rfl<|qM rfl<|gF rfl ‹_› ty38 rfl<|gL rfl ‹_› ty3 rfl<|gK rfl ‹_›<|qP rfl ‹_› rfl<|qM rfl<|gF rfl ‹_› ty38 rfl<|gL rfl ‹_› ty3 rfl<|gF rfl ‹_› ty25 rfl<|gL rfl ‹_› ty3 rfl<|gGe rfl ‹_›<|qP rfl ‹_› rfl<|qM rfl<|gF rfl ‹_› ty38 rfl<|gL rfl ‹_› ty3 rfl<|gK rfl ‹_›<|qP rfl ‹_› rfl<|qM rfl<|gF rfl ‹_› ty38 rfl<|gL rfl ‹_› ty3 rfl<|gF rfl ‹_› ty25 rfl<|gL rfl ‹_› ty3 rfl<|gGe rfl ‹_›<|qP rfl ‹_› rfl<|qM rfl<|qD rfl ‹_› rfl<|qD rfl ‹_› rfl<|qD rfl ‹_› rfl<|qT rfl ‹_› rfl<|qM rfl<|qD rfl rfl rfl<|qD rfl rfl rfl<|qD rfl rfl rfl<|qT rfl rfl rfl<|Nl<|Wt rfl rfl<|Wq<|qW 110 111 rfl<|qA rfl<|Nl<|Wz ⟨.inl rfl,_,mt,Rc (Rt0 rfl) (Rv),aM,?_⟩
            exact ⟨by rw [validB_bad hc (by unfold lnkB;simp;omega)];rfl,rfl⟩
           ·have ht4:decide (f.links[i].b ≥ f.sw)=false:=decide_eq_false t4
            by_cases t5:f.links[i].c < 1
            ·have ht5:decide (f.links[i].c < 1)=true:=decide_eq_true t5
             refine Wq<|qW 67 106 rfl<|qF rfl ty38 rfl<|qL rfl ty3 rfl<|qF rfl ty38 rfl<|qL rfl ty3 rfl<|qE rfl<|qM rfl<|gF rfl ‹_› ty38 rfl<|gL rfl ‹_› ty3 rfl<|gK rfl ‹_›<|qP rfl ‹_› rfl<|qM rfl<|gF rfl ‹_› ty38 rfl<|gL rfl ‹_› ty3 rfl<|gF rfl ‹_› ty25 rfl<|gL rfl ‹_› ty3 rfl<|gGe rfl ‹_›<|qP rfl ‹_› rfl<|qM rfl<|gF rfl ‹_› ty38 rfl<|gL rfl ‹_› ty3 rfl<|gK rfl ‹_›<|qP rfl ‹_› rfl<|qM rfl<|gF rfl ‹_› ty38 rfl<|gL rfl ‹_› ty3 rfl<|gF rfl ‹_› ty25 rfl<|gL rfl ‹_› ty3 rfl<|gGe rfl ‹_›<|qP rfl ‹_› rfl<|qM rfl<|gF rfl ‹_› ty38 rfl<|gL rfl ‹_› ty3 rfl<|gK rfl ‹_›<|qP rfl ‹_› rfl<|qM rfl<|qD rfl ‹_› rfl<|qD rfl ‹_› rfl<|qD rfl ‹_› rfl<|qT rfl ‹_› rfl<|Nl<|Wt rfl rfl<|Wq<|qW 110 111 rfl<|qA rfl<|Nl<|Wz ⟨.inl rfl,_,mt,Rc (Rt0 rfl) (Rv),aM,?_⟩
             exact ⟨by rw [validB_bad hc (by unfold lnkB;simp;omega)];rfl,rfl⟩
            ·have ht5:decide (f.links[i].c < 1)=false:=decide_eq_false t5
             by_cases t6:f.links[i].c > 1048576
             ·have ht6:decide (f.links[i].c > 1048576)=true:=decide_eq_true t6
              refine Wq<|qW 67 106 rfl<|qF rfl ty38 rfl<|qL rfl ty3 rfl<|qF rfl ty38 rfl<|qL rfl ty3 rfl<|qE rfl<|qM rfl<|gF rfl ‹_› ty38 rfl<|gL rfl ‹_› ty3 rfl<|gK rfl ‹_›<|qP rfl ‹_› rfl<|qM rfl<|gF rfl ‹_› ty38 rfl<|gL rfl ‹_› ty3 rfl<|gF rfl ‹_› ty25 rfl<|gL rfl ‹_› ty3 rfl<|gGe rfl ‹_›<|qP rfl ‹_› rfl<|qM rfl<|gF rfl ‹_› ty38 rfl<|gL rfl ‹_› ty3 rfl<|gK rfl ‹_›<|qP rfl ‹_› rfl<|qM rfl<|gF rfl ‹_› ty38 rfl<|gL rfl ‹_› ty3 rfl<|gF rfl ‹_› ty25 rfl<|gL rfl ‹_› ty3 rfl<|gGe rfl ‹_›<|qP rfl ‹_› rfl<|qM rfl<|gF rfl ‹_› ty38 rfl<|gL rfl ‹_› ty3 rfl<|gK rfl ‹_›<|qP rfl ‹_› rfl<|qM rfl<|gF rfl ‹_› ty38 rfl<|gL rfl ‹_› ty3 rfl<|gGt rfl ‹_›<|qP rfl ‹_› rfl<|Nl<|Wt rfl ‹_›<|Wq<|qW 110 111 rfl<|qA rfl<|Nl<|Wz ⟨.inl rfl,_,mt,Rc (Rt0 rfl) (Rv),aM,?_⟩
              exact ⟨by rw [validB_bad hc (by unfold lnkB;simp;omega)];rfl,rfl⟩
             ·have ht6:decide (f.links[i].c > 1048576)=false:=decide_eq_false t6
              refine Wq<|qW 67 106 rfl<|qF rfl ty38 rfl<|qL rfl ty3 rfl<|qF rfl ty38 rfl<|qL rfl ty3 rfl<|qE rfl<|qM rfl<|gF rfl ‹_› ty38 rfl<|gL rfl ‹_› ty3 rfl<|gK rfl ‹_›<|qP rfl ‹_› rfl<|qM rfl<|gF rfl ‹_› ty38 rfl<|gL rfl ‹_› ty3 rfl<|gF rfl ‹_› ty25 rfl<|gL rfl ‹_› ty3 rfl<|gGe rfl ‹_›<|qP rfl ‹_› rfl<|qM rfl<|gF rfl ‹_› ty38 rfl<|gL rfl ‹_› ty3 rfl<|gK rfl ‹_›<|qP rfl ‹_› rfl<|qM rfl<|gF rfl ‹_› ty38 rfl<|gL rfl ‹_› ty3 rfl<|gF rfl ‹_› ty25 rfl<|gL rfl ‹_› ty3 rfl<|gGe rfl ‹_›<|qP rfl ‹_› rfl<|qM rfl<|gF rfl ‹_› ty38 rfl<|gL rfl ‹_› ty3 rfl<|gK rfl ‹_›<|qP rfl ‹_› rfl<|qM rfl<|gF rfl ‹_› ty38 rfl<|gL rfl ‹_› ty3 rfl<|gGt rfl ‹_›<|qP rfl ‹_› rfl<|Nl<|Wo rfl ‹_›<|Wu<|qW 115 117 rfl<|qZ rfl (iW _ (by omega))<|qM rfl<|Nl<|WL.rename [(0,0)] 1 (by decide) ?_ ?_ (ihA (i + 1) (show f.links.length - (i + 1) < f.links.length - i from by omega) (show (i + 1)≤f.links.length∧(f.links.take (i + 1)).all (lnkB f)=true from ⟨by omega,by rw [all_take_succ _ hc,hall];unfold lnkB;simp;omega⟩))
              ·exact aU (lR rfl) (aU (lR rfl) (aU (lR rfl) (aU (lI rfl) aM)))
              ·exact aU (kR rfl) aM
      ·have g1:decide ((i:Int) < (f.links.length:Int))=false:=decide_eq_false (by omega)
       refine Wq<|qW 54 55 rfl<|qK rfl<|Nl<|Wq<|Wo rfl ‹_›<|Wx ?_
       obtain rfl:i=f.links.length:=by omega
       refine Wq<|qW 121 122 rfl<|qA rfl<|Nl<|Wz ⟨.inl rfl,_,mt,Rc (Rt0 rfl) (Rv),aM,?_⟩
       exact ⟨by rw [validB_all hall,hsz];rfl,rfl⟩
end Go.Proofs.Ytneidpjkboaejaa
