/-
  Fabrics: which links work, by both texts.
-/
import Derived.Test.YtneidpjkboaejaaOx
import Derived.Test.YtneidpjkboaejaaMab
namespace Go.Proofs.Ytneidpjkboaejaa
open Go.RowKit
theorem deadX_any (f:Fab) (s:Int):AFn Try.prog 17 0 [.agg (fabC f),.base (.int .i64 s)] mt (.base (.bool (!aliveB f s))) mt:=by
 refine AFn.eq Try.func17 rfl rfl (Nat.le_of_ble_eq_true rfl) ?_
 unfold fabC
 refine Wq<|qW 0 2 rfl<|qC rfl<|qA rfl<|Nl ?_
 by_cases h0:0≤s
 ·obtain ⟨j,rfl⟩:=Int.eq_ofNat_of_zero_le h0
  have g0:decide ((j:Int) < 0)=false:=decide_eq_false (by omega)
  by_cases h1:j < f.dead.length
  ·have g1:decide ((f.dead.length:Int)≤(j:Int))=false:=decide_eq_false (by omega)
   refine Wq<|qW 6 23 rfl<|qM rfl<|qK rfl<|qM rfl<|gM rfl rfl<|gF rfl rfl ty25 rfl<|gL rfl rfl ty23 rfl<|gH rfl rfl ty23<|gGe rfl rfl<|qP rfl rfl rfl<|qM rfl<|gF rfl ‹_› ty25 rfl<|gL rfl ‹_› ty23 rfl<|gM rfl ‹_›<|qU rfl ‹_› rfl (Ii rfl rfl rfl rfl rfl ty23 ty4 (by omega))<|qU rfl ‹_› rfl (Li rfl rfl (boolsC_at h1) ty4 rfl)<|qP rfl ‹_› rfl<|qA rfl<|Nl<|Wz ⟨.inl rfl,_,mt,Rc (Rt0 rfl) (Rv),aM,?_⟩
   exact ⟨by rw [aliveB_at h1,Bool.not_not];rfl,rfl⟩
  ·have g1:decide ((f.dead.length:Int)≤(j:Int))=true:=decide_eq_true (by omega)
   refine Wq<|qW 6 23 rfl<|qM rfl<|qK rfl<|qM rfl<|gM rfl rfl<|gF rfl rfl ty25 rfl<|gL rfl rfl ty23 rfl<|gH rfl rfl ty23<|gGe rfl rfl<|qP rfl rfl rfl<|qM rfl<|qD rfl ‹_› rfl<|qD rfl ‹_› rfl<|qD rfl ‹_› rfl<|qD rfl ‹_› rfl<|qD rfl ‹_› rfl<|qT rfl ‹_› rfl<|qA rfl<|Nl<|Wz ⟨.inl rfl,_,mt,Rc (Rt0 rfl) (Rv),aM,?_⟩
   exact ⟨by have g2 : decide ((j : Int) < f.dead.length) = false := decide_eq_false (by omega)
             unfold aliveB;rw [g2];simp [retOf],rfl⟩
 ·have g0:decide (s < 0)=true:=decide_eq_true (by omega)
  refine Wq<|qW 6 23 rfl<|qM rfl<|qK rfl<|qM rfl<|qD rfl ‹_› rfl<|qD rfl ‹_› rfl<|qD rfl ‹_› rfl<|qD rfl ‹_› rfl<|qD rfl ‹_› rfl<|qT rfl ‹_› rfl<|qM rfl<|qD rfl rfl rfl<|qD rfl rfl rfl<|qD rfl rfl rfl<|qD rfl rfl rfl<|qD rfl rfl rfl<|qT rfl rfl rfl<|qA rfl<|Nl<|Wz ⟨.inl rfl,_,mt,Rc (Rt0 rfl) (Rv),aM,?_⟩
  exact ⟨by unfold aliveB;rw [decide_eq_false h0];rfl,rfl⟩
theorem works_any (f:Fab) (s:Int):AFn Try.prog 11 0 [.agg (fabC f),.base (.int .i64 s)] mt (.base (.bool (worksB f s))) mt:=by
 refine AFn.eq Try.func11 rfl rfl (Nat.le_of_ble_eq_true rfl) ?_
 have hal:=alive_any f
 unfold fabC at hal ⊢
 refine Wq<|qW 0 2 rfl<|qC rfl<|qA rfl<|Nl ?_
 by_cases h0:0≤s
 ·obtain ⟨j,rfl⟩:=Int.eq_ofNat_of_zero_le h0
  have g0:decide ((j:Int) < 0)=false:=decide_eq_false (by omega)
  by_cases h1:j < f.links.length
  ·have g1:decide ((f.links.length:Int)≤(j:Int))=false:=decide_eq_false (by omega)
   by_cases h2:j < f.down.length
   ·have g2:decide ((f.down.length:Int)≤(j:Int))=false:=decide_eq_false (by omega)
    have hw:=worksB_at h1 h2
    refine Wq<|Wq<|qW 6 29 rfl<|qM rfl<|qK rfl<|qM rfl<|gM rfl rfl<|gF rfl rfl ty25 rfl<|gL rfl rfl ty22 rfl<|gH rfl rfl ty22<|gGe rfl rfl<|qP rfl rfl rfl<|qM rfl<|gM rfl ‹_›<|gF rfl ‹_› ty25 rfl<|gL rfl ‹_› ty23 rfl<|gH rfl ‹_› ty23<|gGe rfl ‹_›<|qP rfl ‹_› rfl<|qM rfl<|gF rfl ‹_› ty25 rfl<|gL rfl ‹_› ty23 rfl<|gM rfl ‹_›<|qU rfl ‹_› rfl (Ii rfl rfl rfl rfl rfl ty23 ty4 (by omega))<|qU rfl ‹_› rfl (Li rfl rfl (boolsC_at h2) ty4 rfl)<|qP rfl ‹_› rfl<|Nl ?_
    cases hd:f.down[j] with
    | true =>
     refine Wt rfl rfl<|Wq<|qW 33 34 rfl<|qA rfl<|Nl<|Wz ⟨.inl rfl,_,mt,Rc (Rt0 rfl) (Rv),aM,?_⟩
     exact ⟨by rw [hw,hd];rfl,rfl⟩
    | false =>
     refine Wo rfl rfl<|Wu ?_
     cases ha:aliveB f f.links[j].a with
     | true =>
      refine Wq<|Wd 38 57 (by decide) rfl mixed rfl<|qG rfl ty25 rfl (Tl rfl)<|qF rfl ty25 rfl<|qL rfl ty22 rfl<|qM rfl<|qJ rfl rfl ty22 ty38 (by omega)<|qI rfl ty38 rfl<|Od rfl rfl (Li rfl rfl (lnksC_at h1).1 ty3 rfl)<|qY rfl (hal _) fok16 rfl<|qM rfl<|gG rfl ‹_› ty25 rfl (Tl rfl)<|gF rfl ‹_› ty25 rfl<|gL rfl ‹_› ty22 rfl<|gM rfl ‹_›<|qU rfl ‹_› rfl (Ii rfl rfl rfl rfl rfl ty22 ty38 (by omega))<|qU rfl ‹_› rfl (Fi rfl rfl ty38 rfl (by decide))<|qU rfl ‹_› rfl (Li rfl rfl (lnksC_at h1).2.1 ty3 rfl)<|gY rfl ‹_› (hal _) fok16 rfl<|qT rfl ‹_› rfl<|qA rfl<|Nl ⟨by kernel_rfl,(Wz ⟨.inl rfl,_,mt,Rc (Rt0 rfl) (Rv),aM,?_⟩)⟩
      exact ⟨by rw [hw,hd,ha];rfl,rfl⟩
     | false =>
      refine Wq<|Wd 38 57 (by decide) rfl mixed rfl<|qG rfl ty25 rfl (Tl rfl)<|qF rfl ty25 rfl<|qL rfl ty22 rfl<|qM rfl<|qJ rfl rfl ty22 ty38 (by omega)<|qI rfl ty38 rfl<|Od rfl rfl (Li rfl rfl (lnksC_at h1).1 ty3 rfl)<|qY rfl (hal _) fok16 rfl<|qM rfl<|qD rfl ‹_› rfl<|qD rfl ‹_› rfl<|qD rfl ‹_› rfl<|qD rfl ‹_› rfl<|qD rfl ‹_› rfl<|qD rfl ‹_› rfl<|qD rfl ‹_› rfl<|qD rfl ‹_› rfl<|qP rfl ‹_› rfl<|qA rfl<|Nl ⟨by kernel_rfl,(Wz ⟨.inl rfl,_,mt,Rc (Rt0 rfl) (Rv),aM,?_⟩)⟩
      exact ⟨by rw [hw,hd,ha];rfl,rfl⟩
   ·have g2:decide ((f.down.length:Int)≤(j:Int))=true:=decide_eq_true (by omega)
    refine Wq<|Wq<|qW 6 29 rfl<|qM rfl<|qK rfl<|qM rfl<|gM rfl rfl<|gF rfl rfl ty25 rfl<|gL rfl rfl ty22 rfl<|gH rfl rfl ty22<|gGe rfl rfl<|qP rfl rfl rfl<|qM rfl<|gM rfl ‹_›<|gF rfl ‹_› ty25 rfl<|gL rfl ‹_› ty23 rfl<|gH rfl ‹_› ty23<|gGe rfl ‹_›<|qP rfl ‹_› rfl<|qM rfl<|qD rfl ‹_› rfl<|qD rfl ‹_› rfl<|qD rfl ‹_› rfl<|qD rfl ‹_› rfl<|qD rfl ‹_› rfl<|qT rfl ‹_› rfl<|Nl<|Wt rfl rfl<|Wq<|qW 33 34 rfl<|qA rfl<|Nl<|Wz ⟨.inl rfl,_,mt,Rc (Rt0 rfl) (Rv),aM,?_⟩
    exact ⟨by have g3 : decide ((j : Int) < f.down.length) = false := decide_eq_false (by omega)
              unfold worksB;rw [g3];simp [retOf],rfl⟩
  ·have g1:decide ((f.links.length:Int)≤(j:Int))=true:=decide_eq_true (by omega)
   refine Wq<|Wq<|qW 6 29 rfl<|qM rfl<|qK rfl<|qM rfl<|gM rfl rfl<|gF rfl rfl ty25 rfl<|gL rfl rfl ty22 rfl<|gH rfl rfl ty22<|gGe rfl rfl<|qP rfl rfl rfl<|qM rfl<|qD rfl ‹_› rfl<|qD rfl ‹_› rfl<|qD rfl ‹_› rfl<|qD rfl ‹_› rfl<|qD rfl ‹_› rfl<|qT rfl ‹_› rfl<|qM rfl<|qD rfl rfl rfl<|qD rfl rfl rfl<|qD rfl rfl rfl<|qD rfl rfl rfl<|qD rfl rfl rfl<|qT rfl rfl rfl<|Nl<|Wt rfl rfl<|Wq<|qW 33 34 rfl<|qA rfl<|Nl<|Wz ⟨.inl rfl,_,mt,Rc (Rt0 rfl) (Rv),aM,?_⟩
   exact ⟨by have g3 : decide ((j : Int) < f.links.length) = false := decide_eq_false (by omega)
             unfold worksB;rw [g3];simp [retOf],rfl⟩
 ·have g0:decide (s < 0)=true:=decide_eq_true (by omega)
  refine Wq<|Wq<|qW 6 29 rfl<|qM rfl<|qK rfl<|qM rfl<|qD rfl ‹_› rfl<|qD rfl ‹_› rfl<|qD rfl ‹_› rfl<|qD rfl ‹_› rfl<|qD rfl ‹_› rfl<|qT rfl ‹_› rfl<|qM rfl<|qD rfl rfl rfl<|qD rfl rfl rfl<|qD rfl rfl rfl<|qD rfl rfl rfl<|qD rfl rfl rfl<|qT rfl rfl rfl<|qM rfl<|qD rfl rfl rfl<|qD rfl rfl rfl<|qD rfl rfl rfl<|qD rfl rfl rfl<|qD rfl rfl rfl<|qT rfl rfl rfl<|Nl<|Wt rfl rfl<|Wq<|qW 33 34 rfl<|qA rfl<|Nl<|Wz ⟨.inl rfl,_,mt,Rc (Rt0 rfl) (Rv),aM,?_⟩
  exact ⟨by unfold worksB;rw [decide_eq_false h0];rfl,rfl⟩
theorem worksX_any (f:Fab) (s:Int):AFn Try.prog 12 0 [.agg (fabC f),.base (.int .i64 s)] mt (.base (.bool (worksB f s))) mt:=by
 refine AFn.eq Try.func12 rfl rfl (Nat.le_of_ble_eq_true rfl) ?_
 have hal:=deadX_any f
 unfold fabC at hal ⊢
 refine Wq<|qW 0 2 rfl<|qC rfl<|qA rfl<|Nl ?_
 by_cases h0:0≤s
 ·obtain ⟨j,rfl⟩:=Int.eq_ofNat_of_zero_le h0
  have g0:decide ((j:Int) < 0)=false:=decide_eq_false (by omega)
  by_cases h1:j < f.links.length
  ·have g1:decide ((f.links.length:Int)≤(j:Int))=false:=decide_eq_false (by omega)
   by_cases h2:j < f.down.length
   ·have g2:decide ((f.down.length:Int)≤(j:Int))=false:=decide_eq_false (by omega)
    have hw:=worksB_at h1 h2
    refine Wq<|Wq<|qW 6 29 rfl<|qM rfl<|qK rfl<|qM rfl<|gM rfl rfl<|gF rfl rfl ty25 rfl<|gL rfl rfl ty22 rfl<|gH rfl rfl ty22<|gGe rfl rfl<|qP rfl rfl rfl<|qM rfl<|gM rfl ‹_›<|gF rfl ‹_› ty25 rfl<|gL rfl ‹_› ty23 rfl<|gH rfl ‹_› ty23<|gGe rfl ‹_›<|qP rfl ‹_› rfl<|qM rfl<|gF rfl ‹_› ty25 rfl<|gL rfl ‹_› ty23 rfl<|gM rfl ‹_›<|qU rfl ‹_› rfl (Ii rfl rfl rfl rfl rfl ty23 ty4 (by omega))<|qU rfl ‹_› rfl (Li rfl rfl (boolsC_at h2) ty4 rfl)<|qP rfl ‹_› rfl<|Nl ?_
    cases hd:f.down[j] with
    | true =>
     refine Wt rfl rfl<|Wq<|qW 33 34 rfl<|qA rfl<|Nl<|Wz ⟨.inl rfl,_,mt,Rc (Rt0 rfl) (Rv),aM,?_⟩
     exact ⟨by rw [hw,hd];rfl,rfl⟩
    | false =>
     refine Wo rfl rfl<|Wu<|Wq<|qW 38 45 rfl<|qF rfl ty25 rfl<|qL rfl ty22 rfl<|qM rfl<|qJ rfl rfl ty22 ty38 (by omega)<|Od rfl rfl (Lg rfl rfl ty38 rfl (lnksC_tk h1))<|qB rfl ty38<|qS rfl ty38 (Sl rfl) rfl<|Nl ?_
     cases ha:aliveB f f.links[j].a with
     | true =>
      have ha1:(!!aliveB f f.links[j].a)=true:=by rw [ha];rfl
      refine Wq<|qW 49 62 rfl<|qG rfl ty25 rfl (Tl rfl)<|qF rfl ty38 rfl<|qL rfl ty3 rfl<|qY rfl (hal _) fok17 rfl<|qO rfl<|qM rfl<|gG rfl ‹_› ty25 rfl (Tl rfl)<|gF rfl ‹_› ty38 rfl<|gL rfl ‹_› ty3 rfl<|gY rfl ‹_› (hal _) fok17 rfl<|gO rfl ‹_›<|qT rfl ‹_› rfl<|qA rfl<|Nl<|Wz ⟨.inl rfl,_,mt,Rc (Rt0 rfl) (Rv),aM,?_⟩
      exact ⟨by rw [hw,hd,ha,Bool.not_not];rfl,rfl⟩
     | false =>
      have ha1:(!!aliveB f f.links[j].a)=false:=by rw [ha];rfl
      refine Wq<|qW 49 62 rfl<|qG rfl ty25 rfl (Tl rfl)<|qF rfl ty38 rfl<|qL rfl ty3 rfl<|qY rfl (hal _) fok17 rfl<|qO rfl<|qM rfl<|qD rfl ‹_› rfl<|qD rfl ‹_› rfl<|qD rfl ‹_› rfl<|qD rfl ‹_› rfl<|qD rfl ‹_› rfl<|qP rfl ‹_› rfl<|qA rfl<|Nl<|Wz ⟨.inl rfl,_,mt,Rc (Rt0 rfl) (Rv),aM,?_⟩
      exact ⟨by rw [hw,hd,ha];rfl,rfl⟩
   ·have g2:decide ((f.down.length:Int)≤(j:Int))=true:=decide_eq_true (by omega)
    refine Wq<|Wq<|qW 6 29 rfl<|qM rfl<|qK rfl<|qM rfl<|gM rfl rfl<|gF rfl rfl ty25 rfl<|gL rfl rfl ty22 rfl<|gH rfl rfl ty22<|gGe rfl rfl<|qP rfl rfl rfl<|qM rfl<|gM rfl ‹_›<|gF rfl ‹_› ty25 rfl<|gL rfl ‹_› ty23 rfl<|gH rfl ‹_› ty23<|gGe rfl ‹_›<|qP rfl ‹_› rfl<|qM rfl<|qD rfl ‹_› rfl<|qD rfl ‹_› rfl<|qD rfl ‹_› rfl<|qD rfl ‹_› rfl<|qD rfl ‹_› rfl<|qT rfl ‹_› rfl<|Nl<|Wt rfl rfl<|Wq<|qW 33 34 rfl<|qA rfl<|Nl<|Wz ⟨.inl rfl,_,mt,Rc (Rt0 rfl) (Rv),aM,?_⟩
    exact ⟨by have g3 : decide ((j : Int) < f.down.length) = false := decide_eq_false (by omega)
              unfold worksB;rw [g3];simp [retOf],rfl⟩
  ·have g1:decide ((f.links.length:Int)≤(j:Int))=true:=decide_eq_true (by omega)
   refine Wq<|Wq<|qW 6 29 rfl<|qM rfl<|qK rfl<|qM rfl<|gM rfl rfl<|gF rfl rfl ty25 rfl<|gL rfl rfl ty22 rfl<|gH rfl rfl ty22<|gGe rfl rfl<|qP rfl rfl rfl<|qM rfl<|qD rfl ‹_› rfl<|qD rfl ‹_› rfl<|qD rfl ‹_› rfl<|qD rfl ‹_› rfl<|qD rfl ‹_› rfl<|qT rfl ‹_› rfl<|qM rfl<|qD rfl rfl rfl<|qD rfl rfl rfl<|qD rfl rfl rfl<|qD rfl rfl rfl<|qD rfl rfl rfl<|qT rfl rfl rfl<|Nl<|Wt rfl rfl<|Wq<|qW 33 34 rfl<|qA rfl<|Nl<|Wz ⟨.inl rfl,_,mt,Rc (Rt0 rfl) (Rv),aM,?_⟩
   exact ⟨by have g3 : decide ((j : Int) < f.links.length) = false := decide_eq_false (by omega)
             unfold worksB;rw [g3];simp [retOf],rfl⟩
 ·have g0:decide (s < 0)=true:=decide_eq_true (by omega)
  refine Wq<|Wq<|qW 6 29 rfl<|qM rfl<|qK rfl<|qM rfl<|qD rfl ‹_› rfl<|qD rfl ‹_› rfl<|qD rfl ‹_› rfl<|qD rfl ‹_› rfl<|qD rfl ‹_› rfl<|qT rfl ‹_› rfl<|qM rfl<|qD rfl rfl rfl<|qD rfl rfl rfl<|qD rfl rfl rfl<|qD rfl rfl rfl<|qD rfl rfl rfl<|qT rfl rfl rfl<|qM rfl<|qD rfl rfl rfl<|qD rfl rfl rfl<|qD rfl rfl rfl<|qD rfl rfl rfl<|qD rfl rfl rfl<|qT rfl rfl rfl<|Nl<|Wt rfl rfl<|Wq<|qW 33 34 rfl<|qA rfl<|Nl<|Wz ⟨.inl rfl,_,mt,Rc (Rt0 rfl) (Rv),aM,?_⟩
  exact ⟨by unfold worksB;rw [decide_eq_false h0];rfl,rfl⟩
end Go.Proofs.Ytneidpjkboaejaa
