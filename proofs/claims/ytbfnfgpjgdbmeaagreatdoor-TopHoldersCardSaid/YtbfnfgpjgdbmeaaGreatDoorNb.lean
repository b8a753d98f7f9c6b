/-
  Addresses compared, the next one, the last one and the halves of a prefix: what the document's functions answer.
-/
import Derived.Test.YtbfnfgpjgdbmeaaGreatDoorNa
import Derived.Test.YtbfnfgpjgdbmeaaGreatDoorVt
import Derived.Test.YtbfnfgpjgdbmeaaGreatDoorMab
namespace Go.Proofs.YtbfnfgpjgdbmeaaGreatDoor
open Go.RowKit
theorem cmpI_self (x:Int):cmpI x x=0:=by unfold cmpI;rw [if_neg (by omega),if_neg (by omega)]
theorem cmpI_lt {x y:Int} (h:x < y):cmpI x y=-1:=if_pos h
theorem cmpI_gt {x y:Int} (h:y < x):cmpI x y=1:=by unfold cmpI;rw [if_neg (by omega),if_pos h]
theorem eqA_false {a b:Ad} (h:a≠b):eqA a b=false:=by
 cases he:eqA a b with
 | false=>rfl
 | true =>
  unfold eqA at he
  simp only [Bool.and_eq_true,beq_iff_eq] at he
  obtain ⟨v,x,y⟩:=a
  obtain ⟨v',x',y'⟩:=b
  simp only at he
  obtain ⟨rfl,rfl,rfl⟩:=he
  exact absurd rfl h
theorem plA_same {a b:Ad} (h:a.v6=b.v6):plA a - plA b=(a.hi - b.hi) * 18446744073709551616 + (a.lo - b.lo):=by unfold plA;rw [h];omega
theorem plA_far {a b:Ad} (ha:AdOk a) (hb:AdOk b) (h1:a.v6=false) (h2:b.v6=true):plA a < plA b:=by
 have f1:=plA_fm ha
 have f2:=plA_fm hb
 rw [h1] at f1
 rw [h2] at f2
 unfold fmK at f1 f2
 have:=of_decide_eq_false f1
 have:=of_decide_eq_true f2
 omega
set_option maxHeartbeats 1000000 in
theorem rcmp_any (a b:Ad) (ha:AdOk a) (hb:AdOk b):AFn Tryz.prog 29 0 [.agg (adC a),.agg (adC b)] mt (.base (.int .i64 (cmpI (plA a) (plA b)))) mt:=by
 refine AFn.eq Tryz.func29 rfl rfl (Nat.le_of_ble_eq_true rfl) ?_
 have a1:=ha.lo
 have b1:=hb.lo
 unfold U64 at a1 b1
 by_cases h0:a=b
 ·subst h0
  have he:=eqA_refl a
  rw [cmpI_self]
  refine Wq<|qW 0 3 rfl<|qC rfl<|qC rfl<|qA rfl<|Nl<|Wq<|Wb<|Wq<|qW 7 11 rfl<|qG rfl ty36 rfl (Tl rfl)<|qG rfl ty36 rfl (Tl rfl)<|Od rfl rfl (LO.eql_adb a a he rfl rfl rfl)<|qA rfl<|Nl<|Wt rfl rfl<|Wq<|qW 15 16 rfl<|qA rfl<|Nl<|Wz ⟨.inl rfl,_,mt,(Rc (Rt0 rfl) Rv),aM,?_⟩
  exact ⟨rfl,rfl⟩
 ·have he:=eqA_false h0
  by_cases hv:a.v6=b.v6
  ·have g1:(a.v6 != b.v6)=false:=by simp [hv]
   have hpl:=plA_same hv
   by_cases h1:a.hi < b.hi
   ·have g2:decide (a.hi < b.hi)=true:=decide_eq_true h1
    rw [cmpI_lt (by omega)]
    refine Wq<|qW 0 3 rfl<|qC rfl<|qC rfl<|qA rfl<|Nl<|Wq<|Wb<|Wq<|qW 7 11 rfl<|qG rfl ty36 rfl (Tl rfl)<|qG rfl ty36 rfl (Tl rfl)<|Od rfl rfl (LO.eql_adb a b he rfl rfl rfl)<|qA rfl<|Nl<|Wo rfl rfl<|Wq<|qW 20 26 rfl<|qF rfl ty36 rfl<|qL rfl ty4 rfl<|qF rfl ty36 rfl<|qL rfl ty4 rfl<|Od rfl rfl (LO.neq_bool rfl rfl rfl ty4)<|qA rfl<|Nl<|Wo rfl ‹_›<|Wq<|qW 46 66 rfl<|qF rfl ty36 rfl<|qL rfl ty34 rfl<|qF rfl ty36 rfl<|qL rfl ty34 rfl<|qK rfl<|qM rfl<|qD rfl ‹_› rfl<|qD rfl ‹_› rfl<|qD rfl ‹_› rfl<|qD rfl ‹_› rfl<|qD rfl ‹_› rfl<|qD rfl ‹_› rfl<|Ud rfl rfl rfl rfl<|Ud rfl rfl rfl rfl<|Ud rfl rfl rfl rfl<|Ud rfl rfl rfl rfl<|Ud rfl rfl rfl rfl<|qD rfl ‹_› rfl<|qT rfl ‹_› rfl<|qA rfl<|Nl<|Wt rfl rfl<|Wq<|qW 70 71 rfl<|qA rfl<|Nl<|Wz ⟨.inl rfl,_,mt,(Rc (Rt0 rfl) Rv),aM,?_⟩
    exact ⟨rfl,rfl⟩
   ·have g2:decide (a.hi < b.hi)=false:=decide_eq_false h1
    by_cases h2:a.hi=b.hi
    ·have g3:(a.hi == b.hi)=true:=by simp [h2]
     by_cases h3:a.lo < b.lo
     ·have g4:decide (a.lo < b.lo)=true:=decide_eq_true h3
      rw [cmpI_lt (by omega)]
      refine Wq<|qW 0 3 rfl<|qC rfl<|qC rfl<|qA rfl<|Nl<|Wq<|Wb<|Wq<|qW 7 11 rfl<|qG rfl ty36 rfl (Tl rfl)<|qG rfl ty36 rfl (Tl rfl)<|Od rfl rfl (LO.eql_adb a b he rfl rfl rfl)<|qA rfl<|Nl<|Wo rfl rfl<|Wq<|qW 20 26 rfl<|qF rfl ty36 rfl<|qL rfl ty4 rfl<|qF rfl ty36 rfl<|qL rfl ty4 rfl<|Od rfl rfl (LO.neq_bool rfl rfl rfl ty4)<|qA rfl<|Nl<|Wo rfl ‹_›<|Wq<|qW 46 66 rfl<|qF rfl ty36 rfl<|qL rfl ty34 rfl<|qF rfl ty36 rfl<|qL rfl ty34 rfl<|qK rfl<|qM rfl<|gF rfl ‹_› ty36 rfl<|gL rfl ‹_› ty34 rfl<|gF rfl ‹_› ty36 rfl<|gL rfl ‹_› ty34 rfl<|gE rfl ‹_›<|gM rfl ‹_›<|gF rfl ‹_› ty36 rfl<|gL rfl ‹_› ty34 rfl<|gF rfl ‹_› ty36 rfl<|gL rfl ‹_› ty34 rfl<|gK rfl ‹_›<|qU rfl ‹_› rfl (Pt rfl rfl ‹_› rfl)<|qP rfl ‹_› rfl<|qA rfl<|Nl<|Wt rfl ‹_›<|Wq<|qW 70 71 rfl<|qA rfl<|Nl<|Wz ⟨.inl rfl,_,mt,(Rc (Rt0 rfl) Rv),aM,?_⟩
      exact ⟨rfl,rfl⟩
     ·have g4:decide (a.lo < b.lo)=false:=decide_eq_false h3
      have h4:a.lo≠b.lo:=fun e=>h0 (by obtain ⟨v,x,y⟩:=a;obtain ⟨v',x',y'⟩:=b;simp only at hv h2 e;rw [hv,h2,e])
      rw [cmpI_gt (by omega)]
      refine Wq<|qW 0 3 rfl<|qC rfl<|qC rfl<|qA rfl<|Nl<|Wq<|Wb<|Wq<|qW 7 11 rfl<|qG rfl ty36 rfl (Tl rfl)<|qG rfl ty36 rfl (Tl rfl)<|Od rfl rfl (LO.eql_adb a b he rfl rfl rfl)<|qA rfl<|Nl<|Wo rfl rfl<|Wq<|qW 20 26 rfl<|qF rfl ty36 rfl<|qL rfl ty4 rfl<|qF rfl ty36 rfl<|qL rfl ty4 rfl<|Od rfl rfl (LO.neq_bool rfl rfl rfl ty4)<|qA rfl<|Nl<|Wo rfl ‹_›<|Wq<|qW 46 66 rfl<|qF rfl ty36 rfl<|qL rfl ty34 rfl<|qF rfl ty36 rfl<|qL rfl ty34 rfl<|qK rfl<|qM rfl<|gF rfl ‹_› ty36 rfl<|gL rfl ‹_› ty34 rfl<|gF rfl ‹_› ty36 rfl<|gL rfl ‹_› ty34 rfl<|gE rfl ‹_›<|gM rfl ‹_›<|gF rfl ‹_› ty36 rfl<|gL rfl ‹_› ty34 rfl<|gF rfl ‹_› ty36 rfl<|gL rfl ‹_› ty34 rfl<|gK rfl ‹_›<|qU rfl ‹_› rfl (Pt rfl rfl ‹_› rfl)<|qP rfl ‹_› rfl<|qA rfl<|Nl<|Wo rfl ‹_›<|Wu<|Wq<|qW 75 76 rfl<|qA rfl<|Nl<|Wz ⟨.inl rfl,_,mt,(Rc (Rt0 rfl) Rv),aM,?_⟩
      exact ⟨rfl,rfl⟩
    ·have g3:(a.hi == b.hi)=false:=by simp [h2]
     rw [cmpI_gt (by omega)]
     refine Wq<|qW 0 3 rfl<|qC rfl<|qC rfl<|qA rfl<|Nl<|Wq<|Wb<|Wq<|qW 7 11 rfl<|qG rfl ty36 rfl (Tl rfl)<|qG rfl ty36 rfl (Tl rfl)<|Od rfl rfl (LO.eql_adb a b he rfl rfl rfl)<|qA rfl<|Nl<|Wo rfl rfl<|Wq<|qW 20 26 rfl<|qF rfl ty36 rfl<|qL rfl ty4 rfl<|qF rfl ty36 rfl<|qL rfl ty4 rfl<|Od rfl rfl (LO.neq_bool rfl rfl rfl ty4)<|qA rfl<|Nl<|Wo rfl ‹_›<|Wq<|qW 46 66 rfl<|qF rfl ty36 rfl<|qL rfl ty34 rfl<|qF rfl ty36 rfl<|qL rfl ty34 rfl<|qK rfl<|qM rfl<|gF rfl ‹_› ty36 rfl<|gL rfl ‹_› ty34 rfl<|gF rfl ‹_› ty36 rfl<|gL rfl ‹_› ty34 rfl<|gE rfl ‹_›<|gM rfl ‹_›<|qD rfl ‹_› rfl<|qD rfl ‹_› rfl<|qD rfl ‹_› rfl<|qD rfl ‹_› rfl<|qD rfl ‹_› rfl<|qU rfl ‹_› rfl (Pf0 rfl rfl ‹_› rfl)<|qP rfl ‹_› rfl<|qA rfl<|Nl<|Wo rfl rfl<|Wu<|Wq<|qW 75 76 rfl<|qA rfl<|Nl<|Wz ⟨.inl rfl,_,mt,(Rc (Rt0 rfl) Rv),aM,?_⟩
     exact ⟨rfl,rfl⟩
  ·have g1:(a.v6 != b.v6)=true:=by simp [hv]
   cases hb6:b.v6 with
   | true =>
    have ha6:a.v6=false:=by cases h:a.v6 with
     | false=>rfl
     | true=>exact absurd (h.trans hb6.symm) hv
    rw [cmpI_lt (plA_far ha hb ha6 hb6)]
    refine Wq<|qW 0 3 rfl<|qC rfl<|qC rfl<|qA rfl<|Nl<|Wq<|Wb<|Wq<|qW 7 11 rfl<|qG rfl ty36 rfl (Tl rfl)<|qG rfl ty36 rfl (Tl rfl)<|Od rfl rfl (LO.eql_adb a b he rfl rfl rfl)<|qA rfl<|Nl<|Wo rfl rfl<|Wq<|qW 20 26 rfl<|qF rfl ty36 rfl<|qL rfl ty4 rfl<|qF rfl ty36 rfl<|qL rfl ty4 rfl<|Od rfl rfl (LO.neq_bool rfl rfl rfl ty4)<|qA rfl<|Nl<|Wt rfl ‹_›<|Wq<|Wq<|qW 30 32 rfl<|qF rfl ty36 rfl<|qL rfl ty4 rfl<|Nl<|Wt rfl (hb6)<|Wq<|qW 36 37 rfl<|qA rfl<|Nl<|Wz ⟨.inl rfl,_,mt,(Rc (Rt0 rfl) Rv),aM,?_⟩
    exact ⟨rfl,rfl⟩
   | false =>
    have ha6:a.v6=true:=by cases h:a.v6 with
     | true=>rfl
     | false=>exact absurd (h.trans hb6.symm) hv
    rw [cmpI_gt (plA_far hb ha hb6 ha6)]
    refine Wq<|qW 0 3 rfl<|qC rfl<|qC rfl<|qA rfl<|Nl<|Wq<|Wb<|Wq<|qW 7 11 rfl<|qG rfl ty36 rfl (Tl rfl)<|qG rfl ty36 rfl (Tl rfl)<|Od rfl rfl (LO.eql_adb a b he rfl rfl rfl)<|qA rfl<|Nl<|Wo rfl rfl<|Wq<|qW 20 26 rfl<|qF rfl ty36 rfl<|qL rfl ty4 rfl<|qF rfl ty36 rfl<|qL rfl ty4 rfl<|Od rfl rfl (LO.neq_bool rfl rfl rfl ty4)<|qA rfl<|Nl<|Wt rfl ‹_›<|Wq<|Wq<|qW 30 32 rfl<|qF rfl ty36 rfl<|qL rfl ty4 rfl<|Nl<|Wo rfl (hb6)<|Wu<|Wq<|qW 41 42 rfl<|qA rfl<|Nl<|Wz ⟨.inl rfl,_,mt,(Rc (Rt0 rfl) Rv),aM,?_⟩
    exact ⟨rfl,rfl⟩
theorem rcmp_pl (x y:Int) (h1:0≤x∧x < topK) (h2:0≤y∧y < topK):AFn Tryz.prog 29 0 [.agg (adC (adOf x)),.agg (adC (adOf y))] mt (.base (.int .i64 (cmpI x y))) mt:=by
 obtain ⟨a1,a2⟩:=adOf_ok h1.1 h1.2
 obtain ⟨b1,b2⟩:=adOf_ok h2.1 h2.2
 have:=rcmp_any (adOf x) (adOf y) a1 b1
 rw [a2,b2] at this
 exact this
theorem nx_some {a b:Ad} (ha:AdOk a) (hb:AdOk b) (h:plA b=plA a + 1) (hf:b.v6=a.v6):nxK (plA a)=some (plA b):=by
 have f1:=plA_fm ha
 have f2:=plA_fm hb
 have h3:=(plA_bd hb).2
 rw [hf,← f1] at f2
 unfold nxK
 rw [h,if_neg]
 rintro (e|e)
 ·rw [h,e] at f2
  exact absurd f2 (by decide)
 ·rw [h,e] at h3
  exact absurd h3 (by decide)
set_option maxHeartbeats 1000000 in
theorem rnext_any (a:Ad) (ha:AdOk a):AFn Tryz.prog 146 0 [.agg (adC a)] mt (.tup [.agg (adC (adOf ((nxK (plA a)).getD 0))),.base (.bool (nxK (plA a)).isSome)]) mt:=by
 refine AFn.eq Tryz.func146 rfl rfl (Nat.le_of_ble_eq_true rfl) ?_
 have a1:=ha.lo
 have a2:=ha.hi
 unfold U64 at a1 a2
 by_cases hlo:a.lo=18446744073709551615
 ·-- the lower half is at its end: only of the wider family
  have hv:a.v6=true:=by
   cases h:a.v6 with
   | true=>rfl
   | false=>have:=(ha.v4 h).2;omega
  have hw:IntKind.u64.wrap (a.lo + 1)=0:=by rw [hlo];decide
  by_cases hhi:a.hi=18446744073709551615
  ·have hwh:IntKind.u64.wrap (a.hi + 1)=0:=by rw [hhi];decide
   have hp:plA a=340282366920938463463374607436063178751:=by unfold plA;rw [hv,hlo,hhi];decide
   have hn:nxK (plA a)=none:=by rw [hp];rfl
   rw [hn,show adOf ((none:Option Int).getD 0)=⟨false,0,0⟩ from rfl,show (none:Option Int).isSome=false from rfl]
   refine Wq<|qW 0 3 rfl<|qC rfl<|qB rfl ty36<|qA rfl<|Nl<|Wq<|qW 7 12 rfl<|qF rfl ty36 rfl<|qL rfl ty34 rfl<|Od rfl rfl (LO.add rfl rfl rfl)<|qF rfl ty36 rfl<|qS rfl ty34 (Sl rfl) rfl<|Nl ?_
   rw [hw]
   refine Wq<|Wq<|qW 16 19 rfl<|qF rfl ty36 rfl<|qL rfl ty34 rfl<|qE rfl<|Nl<|Wt rfl rfl<|qW 23 28 rfl<|qF rfl ty36 rfl<|qL rfl ty34 rfl<|Od rfl rfl (LO.add rfl rfl rfl)<|qF rfl ty36 rfl<|qS rfl ty34 (Sl rfl) rfl<|Nl ?_
   rw [hwh]
   refine Wq<|Wq<|qW 32 54 rfl<|qF rfl ty36 rfl<|qL rfl ty4 rfl<|qM rfl<|gF rfl ‹_› ty36 rfl<|gL rfl ‹_› ty34 rfl<|gE rfl ‹_›<|qT rfl ‹_› rfl<|qM rfl<|gF rfl rfl ty36 rfl<|gL rfl rfl ty34 rfl<|gE rfl rfl<|qT rfl rfl rfl<|qM rfl<|qD rfl rfl rfl<|qD rfl rfl rfl<|qD rfl rfl rfl<|qD rfl rfl rfl<|Ud rfl rfl rfl rfl<|Ud rfl rfl rfl rfl<|Ud rfl rfl rfl rfl<|qD rfl rfl rfl<|qT rfl rfl rfl<|Nl<|Wt rfl rfl<|Wq<|qW 58 61 rfl<|Od rfl rfl (Bs rfl ty36 .nil)<|qS rfl ty36 (Sl rfl) rfl<|qA rfl<|Nl<|Wz ⟨.inl rfl,_,mt,(Rc (Ra0 rfl rfl ty36 rfl (Tl rfl)) (Rc (Rt0 rfl) Rv)),aM,?_⟩
   exact ⟨rfl,rfl⟩
  ·have hok:AdOk ⟨a.v6,a.hi + 1,0⟩:=⟨by unfold validA;rw [hv];rfl,⟨by show 0≤a.hi + 1;omega,by show a.hi + 1 < _;omega⟩,⟨Int.le_refl 0,(by decide:(0:Int) < 18446744073709551616)⟩⟩
   have hpl:plA ⟨a.v6,a.hi + 1,0⟩=plA a + 1:=by unfold plA;simp only;omega
   have hn:=nx_some ha hok hpl rfl
   rw [hn,show adOf ((some (plA ⟨a.v6,a.hi + 1,0⟩)).getD 0)=⟨a.v6,a.hi + 1,0⟩ from adOf_pl hok,show (some (plA ⟨a.v6,a.hi + 1,0⟩)).isSome=true from rfl]
   have g1:(a.hi + 1 == 0)=false:=by simp;omega
   have g0:(!a.v6)=false:=by rw [hv];rfl
   refine Wq<|qW 0 3 rfl<|qC rfl<|qB rfl ty36<|qA rfl<|Nl<|Wq<|qW 7 12 rfl<|qF rfl ty36 rfl<|qL rfl ty34 rfl<|Od rfl rfl (LO.add rfl rfl rfl)<|qF rfl ty36 rfl<|qS rfl ty34 (Sl rfl) rfl<|Nl ?_
   rw [hw]
   refine Wq<|Wq<|qW 16 19 rfl<|qF rfl ty36 rfl<|qL rfl ty34 rfl<|qE rfl<|Nl<|Wt rfl rfl<|qW 23 28 rfl<|qF rfl ty36 rfl<|qL rfl ty34 rfl<|qZ rfl (IntWalk.u64_in _ (by omega))<|qF rfl ty36 rfl<|qS rfl ty34 (Sl rfl) rfl<|Nl<|Wq<|Wq<|qW 32 54 rfl<|qF rfl ty36 rfl<|qL rfl ty4 rfl<|qM rfl<|gF rfl ‹_› ty36 rfl<|gL rfl ‹_› ty34 rfl<|gE rfl ‹_›<|qT rfl ‹_› rfl<|qM rfl<|qD rfl ‹_› rfl<|qD rfl ‹_› rfl<|qD rfl ‹_› rfl<|qP rfl ‹_› rfl<|qM rfl<|gF rfl rfl ty36 rfl<|gL rfl rfl ty4 rfl<|gO rfl rfl<|gM rfl rfl<|qD rfl ‹_› rfl<|qD rfl ‹_› rfl<|qD rfl ‹_› rfl<|qU rfl rfl rfl (Pf0 rfl rfl ‹_› rfl)<|qP rfl rfl rfl<|Nl<|Wo rfl rfl<|Wu<|Wq<|qW 65 68 rfl<|qG rfl ty36 rfl (Tl rfl)<|qS rfl ty36 (Sl rfl) rfl<|qA rfl<|Nl<|Wz ⟨.inl rfl,_,mt,(Rc (Ra0 rfl rfl ty36 rfl (Tl rfl)) (Rc (Rt0 rfl) Rv)),aM,?_⟩
   exact ⟨rfl,rfl⟩
 ·have g0:(a.lo + 1 == 0)=false:=by simp;omega
  cases hv:a.v6 with
  | true =>
   have hok:AdOk ⟨a.v6,a.hi,a.lo + 1⟩:=⟨by unfold validA;rw [hv];rfl,ha.hi,⟨by show 0≤a.lo + 1;omega,by show a.lo + 1 < _;omega⟩⟩
   have hpl:plA ⟨a.v6,a.hi,a.lo + 1⟩=plA a + 1:=by unfold plA;simp only;omega
   have hn:=nx_some ha hok hpl rfl
   rw [hn,show adOf ((some (plA ⟨a.v6,a.hi,a.lo + 1⟩)).getD 0)=⟨a.v6,a.hi,a.lo + 1⟩ from adOf_pl hok,show (some (plA ⟨a.v6,a.hi,a.lo + 1⟩)).isSome=true from rfl]
   have g2:(!a.v6)=false:=by rw [hv];rfl
   rcases Bool.eq_false_or_eq_true (a.hi == 0) with g1|g1
   ·
    refine Wq<|qW 0 3 rfl<|qC rfl<|qB rfl ty36<|qA rfl<|Nl<|Wq<|qW 7 12 rfl<|qF rfl ty36 rfl<|qL rfl ty34 rfl<|qZ rfl (IntWalk.u64_in _ (by omega))<|qF rfl ty36 rfl<|qS rfl ty34 (Sl rfl) rfl<|Nl<|Wq<|Wq<|qW 16 19 rfl<|qF rfl ty36 rfl<|qL rfl ty34 rfl<|qE rfl<|Nl<|Wo rfl ‹_›<|Wu<|Wq<|Wq<|qW 32 54 rfl<|qF rfl ty36 rfl<|qL rfl ty4 rfl<|qM rfl<|gF rfl ‹_› ty36 rfl<|gL rfl ‹_› ty34 rfl<|gE rfl ‹_›<|qT rfl ‹_› rfl<|qM rfl<|gF rfl ‹_› ty36 rfl<|gL rfl ‹_› ty34 rfl<|gE rfl ‹_›<|qT rfl ‹_› rfl<|qM rfl<|gF rfl ‹_› ty36 rfl<|gL rfl ‹_› ty4 rfl<|gO rfl ‹_›<|gM rfl ‹_›<|qD rfl ‹_› rfl<|qD rfl ‹_› rfl<|qD rfl ‹_› rfl<|qU rfl ‹_› rfl (Pf0 rfl rfl ‹_› rfl)<|qP rfl ‹_› rfl<|Nl<|Wo rfl rfl<|Wu<|Wq<|qW 65 68 rfl<|qG rfl ty36 rfl (Tl rfl)<|qS rfl ty36 (Sl rfl) rfl<|qA rfl<|Nl<|Wz ⟨.inl rfl,_,mt,(Rc (Ra0 rfl rfl ty36 rfl (Tl rfl)) (Rc (Rt0 rfl) Rv)),aM,?_⟩
    exact ⟨rfl,rfl⟩
   ·
    refine Wq<|qW 0 3 rfl<|qC rfl<|qB rfl ty36<|qA rfl<|Nl<|Wq<|qW 7 12 rfl<|qF rfl ty36 rfl<|qL rfl ty34 rfl<|qZ rfl (IntWalk.u64_in _ (by omega))<|qF rfl ty36 rfl<|qS rfl ty34 (Sl rfl) rfl<|Nl<|Wq<|Wq<|qW 16 19 rfl<|qF rfl ty36 rfl<|qL rfl ty34 rfl<|qE rfl<|Nl<|Wo rfl ‹_›<|Wu<|Wq<|Wq<|qW 32 54 rfl<|qF rfl ty36 rfl<|qL rfl ty4 rfl<|qM rfl<|gF rfl ‹_› ty36 rfl<|gL rfl ‹_› ty34 rfl<|gE rfl ‹_›<|qT rfl ‹_› rfl<|qM rfl<|qD rfl ‹_› rfl<|qD rfl ‹_› rfl<|qD rfl ‹_› rfl<|qP rfl ‹_› rfl<|qM rfl<|gF rfl rfl ty36 rfl<|gL rfl rfl ty4 rfl<|gO rfl rfl<|gM rfl rfl<|qD rfl ‹_› rfl<|qD rfl ‹_› rfl<|qD rfl ‹_› rfl<|qU rfl rfl rfl (Pf0 rfl rfl ‹_› rfl)<|qP rfl rfl rfl<|Nl<|Wo rfl rfl<|Wu<|Wq<|qW 65 68 rfl<|qG rfl ty36 rfl (Tl rfl)<|qS rfl ty36 (Sl rfl) rfl<|qA rfl<|Nl<|Wz ⟨.inl rfl,_,mt,(Rc (Ra0 rfl rfl ty36 rfl (Tl rfl)) (Rc (Rt0 rfl) Rv)),aM,?_⟩
    exact ⟨rfl,rfl⟩
  | false =>
   have h4:=ha.v4 hv
   have g2:(!a.v6)=true:=by rw [hv];rfl
   by_cases he:a.lo=4294967295
   ·have hp:plA a=4294967295:=by unfold plA;rw [hv,h4.1,he];decide
    have hn:nxK (plA a)=none:=by rw [hp];rfl
    rw [hn,show adOf ((none:Option Int).getD 0)=⟨false,0,0⟩ from rfl,show (none:Option Int).isSome=false from rfl]
    have g3:decide (a.lo + 1 ≥ 4294967296)=true:=decide_eq_true (by omega)
    refine Wq<|qW 0 3 rfl<|qC rfl<|qB rfl ty36<|qA rfl<|Nl<|Wq<|qW 7 12 rfl<|qF rfl ty36 rfl<|qL rfl ty34 rfl<|qZ rfl (IntWalk.u64_in _ (by omega))<|qF rfl ty36 rfl<|qS rfl ty34 (Sl rfl) rfl<|Nl<|Wq<|Wq<|qW 16 19 rfl<|qF rfl ty36 rfl<|qL rfl ty34 rfl<|qE rfl<|Nl<|Wo rfl ‹_›<|Wu<|Wq<|Wq<|qW 32 54 rfl<|qF rfl ty36 rfl<|qL rfl ty4 rfl<|qM rfl<|qD rfl ‹_› rfl<|qD rfl ‹_› rfl<|qD rfl ‹_› rfl<|qP rfl ‹_› rfl<|qM rfl<|qD rfl rfl rfl<|qD rfl rfl rfl<|qD rfl rfl rfl<|qP rfl rfl rfl<|qM rfl<|gF rfl rfl ty36 rfl<|gL rfl rfl ty4 rfl<|gO rfl rfl<|gM rfl rfl<|gF rfl ‹_› ty36 rfl<|gL rfl ‹_› ty34 rfl<|gGe rfl ‹_›<|qU rfl rfl rfl (Pt rfl rfl ‹_› rfl)<|qP rfl rfl rfl<|Nl<|Wt rfl ‹_›<|Wq<|qW 58 61 rfl<|Od rfl rfl (Bs rfl ty36 .nil)<|qS rfl ty36 (Sl rfl) rfl<|qA rfl<|Nl<|Wz ⟨.inl rfl,_,mt,(Rc (Ra0 rfl rfl ty36 rfl (Tl rfl)) (Rc (Rt0 rfl) Rv)),aM,?_⟩
    exact ⟨rfl,rfl⟩
   ·have hok:AdOk ⟨a.v6,a.hi,a.lo + 1⟩:=⟨by unfold validA;rw [hv,h4.1];simp;omega,ha.hi,⟨by show 0≤a.lo + 1;omega,by show a.lo + 1 < _;omega⟩⟩
    have hpl:plA ⟨a.v6,a.hi,a.lo + 1⟩=plA a + 1:=by unfold plA;simp only;omega
    have hn:=nx_some ha hok hpl rfl
    rw [hn,show adOf ((some (plA ⟨a.v6,a.hi,a.lo + 1⟩)).getD 0)=⟨a.v6,a.hi,a.lo + 1⟩ from adOf_pl hok,show (some (plA ⟨a.v6,a.hi,a.lo + 1⟩)).isSome=true from rfl]
    have g3:decide (a.lo + 1 ≥ 4294967296)=false:=decide_eq_false (by omega)
    refine Wq<|qW 0 3 rfl<|qC rfl<|qB rfl ty36<|qA rfl<|Nl<|Wq<|qW 7 12 rfl<|qF rfl ty36 rfl<|qL rfl ty34 rfl<|qZ rfl (IntWalk.u64_in _ (by omega))<|qF rfl ty36 rfl<|qS rfl ty34 (Sl rfl) rfl<|Nl<|Wq<|Wq<|qW 16 19 rfl<|qF rfl ty36 rfl<|qL rfl ty34 rfl<|qE rfl<|Nl<|Wo rfl ‹_›<|Wu<|Wq<|Wq<|qW 32 54 rfl<|qF rfl ty36 rfl<|qL rfl ty4 rfl<|qM rfl<|qD rfl ‹_› rfl<|qD rfl ‹_› rfl<|qD rfl ‹_› rfl<|qP rfl ‹_› rfl<|qM rfl<|qD rfl rfl rfl<|qD rfl rfl rfl<|qD rfl rfl rfl<|qP rfl rfl rfl<|qM rfl<|gF rfl rfl ty36 rfl<|gL rfl rfl ty4 rfl<|gO rfl rfl<|gM rfl rfl<|gF rfl ‹_› ty36 rfl<|gL rfl ‹_› ty34 rfl<|gGe rfl ‹_›<|qU rfl rfl rfl (Pt rfl rfl ‹_› rfl)<|qP rfl rfl rfl<|Nl<|Wo rfl ‹_›<|Wu<|Wq<|qW 65 68 rfl<|qG rfl ty36 rfl (Tl rfl)<|qS rfl ty36 (Sl rfl) rfl<|qA rfl<|Nl<|Wz ⟨.inl rfl,_,mt,(Rc (Ra0 rfl rfl ty36 rfl (Tl rfl)) (Rc (Rt0 rfl) Rv)),aM,?_⟩
    exact ⟨rfl,rfl⟩
theorem rnext_pl (k:Int) (h:0≤k∧k < topK):AFn Tryz.prog 146 0 [.agg (adC (adOf k))] mt (.tup [.agg (adC (adOf ((nxK k).getD 0))),.base (.bool (nxK k).isSome)]) mt:=by
 obtain ⟨a1,a2⟩:=adOf_ok h.1 h.2
 have:=rnext_any (adOf k) a1
 rw [a2] at this
 exact this
def plP (p:Pre):Int × Int:=(plA p.ad,plA (lstA p))
theorem PreOk.pl {p:Pre} (h:PreOk p):InF (plP p)∧(plP p).2=(plP p).1 + 2 ^ frP p - 1∧adOf (plP p).1=p.ad∧adOf (plP p).2=lstA p∧fmK (plP p).1=p.ad.v6:=by
 obtain ⟨l1,l2,l3⟩:=h.last
 have h1:=plA_bd h.ad
 have h2:=plA_bd l1
 have f1:=plA_fm h.ad
 have f2:=plA_fm l1
 have hp:(0:Int) < 2 ^ frP p:=by
  have:=Nat.two_pow_pos (frP p)
  have e:((2 ^ frP p:Nat):Int)=(2:Int) ^ frP p:=by simp
  omega
 refine ⟨⟨⟨?_,?_⟩,h1.1,h2.2⟩,l3,adOf_pl h.ad,adOf_pl l1,f1⟩
 ·show plA p.ad≤plA (lstA p);omega
 ·show fmK (plA p.ad)=fmK (plA (lstA p));rw [f1,f2,l2]
theorem PreOk.mkP_self {p:Pre} (h:PreOk p):eqPre p (mkP p.ad p.len.toNat)=true:=by
 have hge:=h.ge
 have hn:((p.len.toNat:Nat):Int)≤widthA p.ad:=by have:=h.le;omega
 have h1:=mk_eq h.val h.hi h.lo hn
 rw [h.clr] at h1
 have h2:(mkP p.ad p.len.toNat).len=p.len:=by show ((p.len.toNat:Nat):Int)=p.len;omega
 unfold eqPre
 rw [h1,h2,eqA_refl]
 simp
theorem rpvalid_ok (p:Pre) (h:PreOk p):AFn Tryz.prog 112 0 [.agg (preC p)] mt (.base (.bool true)) mt:=by
 have hge:=h.ge
 have:=pvalidX_any p p.len.toNat (by omega) h.val h.hi h.lo (by have:=h.le;omega)
 rw [h.mkP_self] at this
 exact this
theorem rlast_ok (p:Pre) (h:PreOk p):AFn Tryz.prog 30 0 [.agg (preC p)] mt (.agg (adC (adOf (plP p).2))) mt:=by
 have hge:=h.ge
 have:=last_any p p.len.toNat (by omega) h.val h.hi h.lo (by have:=h.le;omega)
 rw [h.pl.2.2.2.1]
 exact this
end Go.Proofs.YtbfnfgpjgdbmeaaGreatDoor
