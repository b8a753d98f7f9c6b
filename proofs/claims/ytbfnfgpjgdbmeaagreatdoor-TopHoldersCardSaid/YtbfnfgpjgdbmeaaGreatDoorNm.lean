/-
  Neighbours of addresses and numbers, the last address of a prefix, sets of resources and whether they are valid: the program's functions. Whether sets of resources are valid, what is left of sets without others: the program's functions.
-/
import Derived.Test.YtbfnfgpjgdbmeaaGreatDoorNk
import Derived.Test.YtbfnfgpjgdbmeaaGreatDoorMab
import Derived.Test.YtbfnfgpjgdbmeaaGreatDoorVw
import Derived.Test.YtbfnfgpjgdbmeaaGreatDoorHe
namespace Go.Proofs.YtbfnfgpjgdbmeaaGreatDoor
open Go.RowKit
set_option maxHeartbeats 1000000 in
theorem anext_any (a:Ad) (ha:AdOk a):AFn Tryz.prog 57 0 [.agg (adC a)] mt (.tup [.agg (adC (adOf ((nxK (plA a)).getD 0))),.base (.bool (nxK (plA a)).isSome)]) mt:=by
 refine AFn.eq Tryz.func57 rfl rfl (Nat.le_of_ble_eq_true rfl) ?_
 have a1:=ha.lo
 have a2:=ha.hi
 unfold U64 at a1 a2
 by_cases hlo:a.lo=18446744073709551615
 ·have hv:a.v6=true:=by
   cases h:a.v6 with
   | true=>rfl
   | false=>have:=(ha.v4 h).2;omega
  have hw:IntKind.u64.wrap (a.lo + 1)=0:=by rw [hlo];decide
  by_cases hhi:a.hi=18446744073709551615
  ·have hwh:IntKind.u64.wrap (a.hi + 1)=0:=by rw [hhi];decide
   have hp:plA a=340282366920938463463374607436063178751:=by unfold plA;rw [hv,hlo,hhi];decide
   have hn:nxK (plA a)=none:=by rw [hp];rfl
   rw [hn,show adOf ((none:Option Int).getD 0)=⟨false,0,0⟩ from rfl,show (none:Option Int).isSome=false from rfl]
   refine Wq<|qW 0 3 rfl<|qC rfl<|qB rfl ty36<|qA rfl<|Nl<|Wq<|qW 7 12 rfl<|qF rfl ty36 rfl<|qL rfl ty34 rfl<|Od rfl rfl (LO.add rfl rfl rfl)<|qF rfl ty36 rfl<|qS rfl ty34 (Sl rfl) rfl<|Nl ?_
   rw [hw]
   refine Wq<|Wq<|qW 16 23 rfl<|qF rfl ty36 rfl<|qL rfl ty4 rfl<|qM rfl<|gF rfl ‹_› ty36 rfl<|gL rfl ‹_› ty34 rfl<|gE rfl ‹_›<|qT rfl ‹_› rfl<|Nl<|Wt rfl rfl<|qW 27 32 rfl<|qF rfl ty36 rfl<|qL rfl ty34 rfl<|Od rfl rfl (LO.add rfl rfl rfl)<|qF rfl ty36 rfl<|qS rfl ty34 (Sl rfl) rfl<|Nl ?_
   rw [hwh]
   refine Wq<|Wq<|qW 36 53 rfl<|qF rfl ty36 rfl<|qL rfl ty4 rfl<|qM rfl<|gF rfl ‹_› ty36 rfl<|gL rfl ‹_› ty34 rfl<|gE rfl ‹_›<|qT rfl ‹_› rfl<|qM rfl<|gF rfl rfl ty36 rfl<|gL rfl rfl ty34 rfl<|gE rfl rfl<|qT rfl rfl rfl<|qM rfl<|qD rfl rfl rfl<|qD rfl rfl rfl<|qD rfl rfl rfl<|qT rfl rfl rfl<|Nl<|Wt rfl rfl<|Wq<|qW 57 60 rfl<|Od rfl rfl (Bs rfl ty36 .nil)<|qS rfl ty36 (Sl rfl) rfl<|qA rfl<|Nl<|Wz ⟨.inl rfl,_,mt,(Rc (Ra0 rfl rfl ty36 rfl (Tl rfl)) (Rc (Rt0 rfl) Rv)),aM,?_⟩
   exact ⟨rfl,rfl⟩
  ·have hok:AdOk ⟨a.v6,a.hi + 1,0⟩:=⟨by unfold validA;rw [hv];rfl,⟨by show 0≤a.hi + 1;omega,by show a.hi + 1 < _;omega⟩,⟨Int.le_refl 0,(by decide:(0:Int) < 18446744073709551616)⟩⟩
   have hpl:plA ⟨a.v6,a.hi + 1,0⟩=plA a + 1:=by unfold plA;simp only;omega
   have hn:=nx_some ha hok hpl rfl
   have hav:=avalid_any ⟨a.v6,a.hi + 1,0⟩
   rw [hok.val] at hav
   rw [hn,show adOf ((some (plA ⟨a.v6,a.hi + 1,0⟩)).getD 0)=⟨a.v6,a.hi + 1,0⟩ from adOf_pl hok,show (some (plA ⟨a.v6,a.hi + 1,0⟩)).isSome=true from rfl]
   have g1:(a.hi + 1 == 0)=false:=by simp;omega
   refine Wq<|qW 0 3 rfl<|qC rfl<|qB rfl ty36<|qA rfl<|Nl<|Wq<|qW 7 12 rfl<|qF rfl ty36 rfl<|qL rfl ty34 rfl<|Od rfl rfl (LO.add rfl rfl rfl)<|qF rfl ty36 rfl<|qS rfl ty34 (Sl rfl) rfl<|Nl ?_
   rw [hw]
   refine Wq<|Wq<|qW 16 23 rfl<|qF rfl ty36 rfl<|qL rfl ty4 rfl<|qM rfl<|gF rfl ‹_› ty36 rfl<|gL rfl ‹_› ty34 rfl<|gE rfl ‹_›<|qT rfl ‹_› rfl<|Nl<|Wt rfl rfl<|qW 27 32 rfl<|qF rfl ty36 rfl<|qL rfl ty34 rfl<|qZ rfl (IntWalk.u64_in _ (by omega))<|qF rfl ty36 rfl<|qS rfl ty34 (Sl rfl) rfl<|Nl<|Wq<|Wq<|qW 36 53 rfl<|qF rfl ty36 rfl<|qL rfl ty4 rfl<|qM rfl<|gF rfl ‹_› ty36 rfl<|gL rfl ‹_› ty34 rfl<|gE rfl ‹_›<|qT rfl ‹_› rfl<|qM rfl<|qD rfl ‹_› rfl<|qD rfl ‹_› rfl<|qD rfl ‹_› rfl<|qP rfl ‹_› rfl<|qM rfl<|gG rfl rfl ty36 rfl (Tl rfl)<|gY rfl rfl (hav) fok117 rfl<|gO rfl rfl<|qP rfl rfl rfl<|Nl<|Wo rfl rfl<|Wu<|Wq<|qW 64 67 rfl<|qG rfl ty36 rfl (Tl rfl)<|qS rfl ty36 (Sl rfl) rfl<|qA rfl<|Nl<|Wz ⟨.inl rfl,_,mt,(Rc (Ra0 rfl rfl ty36 rfl (Tl rfl)) (Rc (Rt0 rfl) Rv)),aM,?_⟩
   exact ⟨rfl,rfl⟩
 ·have g0:(a.lo + 1 == 0)=false:=by simp;omega
  cases hv:a.v6 with
  | true =>
   have hok:AdOk ⟨a.v6,a.hi,a.lo + 1⟩:=⟨by unfold validA;rw [hv];rfl,ha.hi,⟨by show 0≤a.lo + 1;omega,by show a.lo + 1 < _;omega⟩⟩
   have hpl:plA ⟨a.v6,a.hi,a.lo + 1⟩=plA a + 1:=by unfold plA;simp only;omega
   have hn:=nx_some ha hok hpl rfl
   have hav:=avalid_any ⟨a.v6,a.hi,a.lo + 1⟩
   rw [hok.val] at hav
   rw [hn,show adOf ((some (plA ⟨a.v6,a.hi,a.lo + 1⟩)).getD 0)=⟨a.v6,a.hi,a.lo + 1⟩ from adOf_pl hok,show (some (plA ⟨a.v6,a.hi,a.lo + 1⟩)).isSome=true from rfl]
   rcases Bool.eq_false_or_eq_true (a.hi == 0) with g1|g1
   ·
    refine Wq<|qW 0 3 rfl<|qC rfl<|qB rfl ty36<|qA rfl<|Nl<|Wq<|qW 7 12 rfl<|qF rfl ty36 rfl<|qL rfl ty34 rfl<|qZ rfl (IntWalk.u64_in _ (by omega))<|qF rfl ty36 rfl<|qS rfl ty34 (Sl rfl) rfl<|Nl<|Wq<|Wq<|qW 16 23 rfl<|qF rfl ty36 rfl<|qL rfl ty4 rfl<|qM rfl<|gF rfl ‹_› ty36 rfl<|gL rfl ‹_› ty34 rfl<|gE rfl ‹_›<|qT rfl ‹_› rfl<|Nl<|Wo rfl ‹_›<|Wu<|Wq<|Wq<|qW 36 53 rfl<|qF rfl ty36 rfl<|qL rfl ty4 rfl<|qM rfl<|gF rfl ‹_› ty36 rfl<|gL rfl ‹_› ty34 rfl<|gE rfl ‹_›<|qT rfl ‹_› rfl<|qM rfl<|gF rfl ‹_› ty36 rfl<|gL rfl ‹_› ty34 rfl<|gE rfl ‹_›<|qT rfl ‹_› rfl<|qM rfl<|gG rfl ‹_› ty36 rfl (Tl rfl)<|gY rfl ‹_› (hav) fok117 rfl<|gO rfl ‹_›<|qP rfl ‹_› rfl<|Nl<|Wo rfl rfl<|Wu<|Wq<|qW 64 67 rfl<|qG rfl ty36 rfl (Tl rfl)<|qS rfl ty36 (Sl rfl) rfl<|qA rfl<|Nl<|Wz ⟨.inl rfl,_,mt,(Rc (Ra0 rfl rfl ty36 rfl (Tl rfl)) (Rc (Rt0 rfl) Rv)),aM,?_⟩
    exact ⟨rfl,rfl⟩
   ·
    refine Wq<|qW 0 3 rfl<|qC rfl<|qB rfl ty36<|qA rfl<|Nl<|Wq<|qW 7 12 rfl<|qF rfl ty36 rfl<|qL rfl ty34 rfl<|qZ rfl (IntWalk.u64_in _ (by omega))<|qF rfl ty36 rfl<|qS rfl ty34 (Sl rfl) rfl<|Nl<|Wq<|Wq<|qW 16 23 rfl<|qF rfl ty36 rfl<|qL rfl ty4 rfl<|qM rfl<|gF rfl ‹_› ty36 rfl<|gL rfl ‹_› ty34 rfl<|gE rfl ‹_›<|qT rfl ‹_› rfl<|Nl<|Wo rfl ‹_›<|Wu<|Wq<|Wq<|qW 36 53 rfl<|qF rfl ty36 rfl<|qL rfl ty4 rfl<|qM rfl<|gF rfl ‹_› ty36 rfl<|gL rfl ‹_› ty34 rfl<|gE rfl ‹_›<|qT rfl ‹_› rfl<|qM rfl<|qD rfl ‹_› rfl<|qD rfl ‹_› rfl<|qD rfl ‹_› rfl<|qP rfl ‹_› rfl<|qM rfl<|gG rfl rfl ty36 rfl (Tl rfl)<|gY rfl rfl (hav) fok117 rfl<|gO rfl rfl<|qP rfl rfl rfl<|Nl<|Wo rfl rfl<|Wu<|Wq<|qW 64 67 rfl<|qG rfl ty36 rfl (Tl rfl)<|qS rfl ty36 (Sl rfl) rfl<|qA rfl<|Nl<|Wz ⟨.inl rfl,_,mt,(Rc (Ra0 rfl rfl ty36 rfl (Tl rfl)) (Rc (Rt0 rfl) Rv)),aM,?_⟩
    exact ⟨rfl,rfl⟩
  | false =>
   have h4:=ha.v4 hv
   have hav:=avalid_any ⟨a.v6,a.hi,a.lo + 1⟩
   by_cases he:a.lo=4294967295
   ·have hp:plA a=4294967295:=by unfold plA;rw [hv,h4.1,he];decide
    have hn:nxK (plA a)=none:=by rw [hp];rfl
    have hvv:validA a.v6 a.hi (a.lo + 1)=false:=by unfold validA;rw [hv,h4.1,he];decide
    rw [hvv] at hav
    rw [hn,show adOf ((none:Option Int).getD 0)=⟨false,0,0⟩ from rfl,show (none:Option Int).isSome=false from rfl]
    refine Wq<|qW 0 3 rfl<|qC rfl<|qB rfl ty36<|qA rfl<|Nl<|Wq<|qW 7 12 rfl<|qF rfl ty36 rfl<|qL rfl ty34 rfl<|qZ rfl (IntWalk.u64_in _ (by omega))<|qF rfl ty36 rfl<|qS rfl ty34 (Sl rfl) rfl<|Nl<|Wq<|Wq<|qW 16 23 rfl<|qF rfl ty36 rfl<|qL rfl ty4 rfl<|qM rfl<|qD rfl ‹_› rfl<|qD rfl ‹_› rfl<|qD rfl ‹_› rfl<|qP rfl ‹_› rfl<|Nl<|Wo rfl rfl<|Wu<|Wq<|Wq<|qW 36 53 rfl<|qF rfl ty36 rfl<|qL rfl ty4 rfl<|qM rfl<|qD rfl ‹_› rfl<|qD rfl ‹_› rfl<|qD rfl ‹_› rfl<|qP rfl ‹_› rfl<|qM rfl<|qD rfl rfl rfl<|qD rfl rfl rfl<|qD rfl rfl rfl<|qP rfl rfl rfl<|qM rfl<|gG rfl rfl ty36 rfl (Tl rfl)<|gY rfl rfl (hav) fok117 rfl<|gO rfl rfl<|qP rfl rfl rfl<|Nl<|Wt rfl rfl<|Wq<|qW 57 60 rfl<|Od rfl rfl (Bs rfl ty36 .nil)<|qS rfl ty36 (Sl rfl) rfl<|qA rfl<|Nl<|Wz ⟨.inl rfl,_,mt,(Rc (Ra0 rfl rfl ty36 rfl (Tl rfl)) (Rc (Rt0 rfl) Rv)),aM,?_⟩
    exact ⟨rfl,rfl⟩
   ·have hok:AdOk ⟨a.v6,a.hi,a.lo + 1⟩:=⟨by unfold validA;rw [hv,h4.1];simp;omega,ha.hi,⟨by show 0≤a.lo + 1;omega,by show a.lo + 1 < _;omega⟩⟩
    have hpl:plA ⟨a.v6,a.hi,a.lo + 1⟩=plA a + 1:=by unfold plA;simp only;omega
    have hn:=nx_some ha hok hpl rfl
    rw [hok.val] at hav
    rw [hn,show adOf ((some (plA ⟨a.v6,a.hi,a.lo + 1⟩)).getD 0)=⟨a.v6,a.hi,a.lo + 1⟩ from adOf_pl hok,show (some (plA ⟨a.v6,a.hi,a.lo + 1⟩)).isSome=true from rfl]
    refine Wq<|qW 0 3 rfl<|qC rfl<|qB rfl ty36<|qA rfl<|Nl<|Wq<|qW 7 12 rfl<|qF rfl ty36 rfl<|qL rfl ty34 rfl<|qZ rfl (IntWalk.u64_in _ (by omega))<|qF rfl ty36 rfl<|qS rfl ty34 (Sl rfl) rfl<|Nl<|Wq<|Wq<|qW 16 23 rfl<|qF rfl ty36 rfl<|qL rfl ty4 rfl<|qM rfl<|qD rfl ‹_› rfl<|qD rfl ‹_› rfl<|qD rfl ‹_› rfl<|qP rfl ‹_› rfl<|Nl<|Wo rfl rfl<|Wu<|Wq<|Wq<|qW 36 53 rfl<|qF rfl ty36 rfl<|qL rfl ty4 rfl<|qM rfl<|qD rfl ‹_› rfl<|qD rfl ‹_› rfl<|qD rfl ‹_› rfl<|qP rfl ‹_› rfl<|qM rfl<|qD rfl rfl rfl<|qD rfl rfl rfl<|qD rfl rfl rfl<|qP rfl rfl rfl<|qM rfl<|gG rfl rfl ty36 rfl (Tl rfl)<|gY rfl rfl (hav) fok117 rfl<|gO rfl rfl<|qP rfl rfl rfl<|Nl<|Wo rfl rfl<|Wu<|Wq<|qW 64 67 rfl<|qG rfl ty36 rfl (Tl rfl)<|qS rfl ty36 (Sl rfl) rfl<|qA rfl<|Nl<|Wz ⟨.inl rfl,_,mt,(Rc (Ra0 rfl rfl ty36 rfl (Tl rfl)) (Rc (Rt0 rfl) Rv)),aM,?_⟩
    exact ⟨rfl,rfl⟩
theorem anext_pl (k:Int) (h:0≤k∧k < topK):AFn Tryz.prog 57 0 [.agg (adC (adOf k))] mt (.tup [.agg (adC (adOf ((nxK k).getD 0))),.base (.bool (nxK k).isSome)]) mt:=by
 obtain ⟨a1,a2⟩:=adOf_ok h.1 h.2
 have:=anext_any (adOf k) a1
 rw [a2] at this
 exact this
theorem acmp_pl (x y:Int) (h1:0≤x∧x < topK) (h2:0≤y∧y < topK):AFn Tryz.prog 55 0 [.agg (adC (adOf x)),.agg (adC (adOf y))] mt (.base (.int .i64 (cmpI x y))) mt:=by
 obtain ⟨a1,a2⟩:=adOf_ok h1.1 h1.2
 obtain ⟨b1,b2⟩:=adOf_ok h2.1 h2.2
 have:=acmp_any (adOf x) (adOf y)
 rw [cmpA_pl a1 b1,a2,b2] at this
 exact this
theorem aprev_pl (k:Int) (h:0≤k∧k < topK):AFn Tryz.prog 443 0 [.agg (adC (adOf k))] mt (.tup [.agg (adC (adOf ((pvK k).getD 0))),.base (.bool (pvK k).isSome)]) mt:=by
 obtain ⟨a1,a2⟩:=adOf_ok h.1 h.2
 have f1:=plA_fm a1
 rw [a2] at f1
 have hv4:=a1.v4
 obtain ⟨a,ha⟩:∃ a,adOf k=a:=⟨_,rfl⟩
 rw [ha] at a1 a2 f1 hv4 ⊢
 have c1:=a1.lo
 have c2:=a1.hi
 unfold U64 at c1 c2
 have hpl:k=(if a.v6 then 4294967296 else 0) + (a.hi * 18446744073709551616 + a.lo):=by rw [← a2];rfl
 refine AFn.eq Tryz.func443 rfl rfl (Nat.le_of_ble_eq_true rfl) ?_
 by_cases hz:a.hi=0∧a.lo=0
 ·have g1:(a.hi == 0)=true:=by simp [hz.1]
  have g2:(a.lo == 0)=true:=by simp [hz.2]
  have hp:pvK k=none:=by
   unfold pvK
   rw [hz.1,hz.2] at hpl
   split at hpl
   ·rw [if_pos (.inr (by omega))]
   ·rw [if_pos (.inl (by omega))]
  rw [hp,show adOf ((none:Option Int).getD 0)=⟨false,0,0⟩ from rfl,show (none:Option Int).isSome=false from rfl]
  refine Wq<|qW 0 3 rfl<|qC rfl<|qB rfl ty36<|qA rfl<|Nl<|Wq<|Wq<|qW 7 15 rfl<|qF rfl ty36 rfl<|qL rfl ty34 rfl<|qE rfl<|qM rfl<|gF rfl ‹_› ty36 rfl<|gL rfl ‹_› ty34 rfl<|gE rfl ‹_›<|qT rfl ‹_› rfl<|Nl<|Wt rfl ‹_›<|Wq<|qW 19 22 rfl<|Od rfl rfl (Bs rfl ty36 .nil)<|qS rfl ty36 (Sl rfl) rfl<|qA rfl<|Nl<|Wz ⟨.inl rfl,_,mt,(Rc (Ra0 rfl rfl ty36 rfl (Tl rfl)) (Rc (Rt0 rfl) Rv)),aM,?_⟩
  exact ⟨rfl,rfl⟩
 ·have hne:¬ (k=0∨k=4294967296):=by
   rintro (e|e)
   ·split at hpl<;>omega
   ·cases h6:a.v6 with
    | true=>rw [h6,if_pos rfl] at hpl;omega
    | false =>
     have:=hv4 h6
     rw [h6] at hpl
     simp at hpl
     omega
  have hp:pvK k=some (k - 1):=by unfold pvK;rw [if_neg hne]
  obtain ⟨b1,b2⟩:=adOf_ok (k:=k - 1) (by omega) (by omega)
  have f2:=plA_fm b1
  have hfk:fmK (k - 1)=fmK k:=by
   unfold fmK
   by_cases c:4294967296≤k
   ·rw [decide_eq_true c,decide_eq_true (by omega:4294967296≤k - 1)]
   ·rw [decide_eq_false c,decide_eq_false (by omega:¬ 4294967296≤k - 1)]
  rw [b2,hfk,f1] at f2
  rw [hp,show (some (k - 1)).isSome=true from rfl,show (some (k - 1)).getD 0=k - 1 from rfl]
  obtain ⟨b,hb⟩:∃ b,adOf (k - 1)=b:=⟨_,rfl⟩
  rw [hb] at b1 b2 f2 ⊢
  have d1:=b1.lo
  have d2:=b1.hi
  unfold U64 at d1 d2
  have hpl2:=plA_same (a:=a) (b:=b) f2
  rw [a2,b2] at hpl2
  by_cases hl:a.lo=0
  ·have g1:(a.lo == 0)=true:=by simp [hl]
   have g2:(a.hi == 0)=false:=by simp;exact fun e=>hz ⟨e,hl⟩
   have hw:IntKind.u64.wrap (a.lo - 1)=b.lo:=by rw [hl,show b.lo=18446744073709551615 from by omega];decide
   have hh:a.hi - 1=b.hi:=by omega
   have hhz:a.hi≠0:=fun e=>hz ⟨e,hl⟩
   refine Wq<|qW 0 3 rfl<|qC rfl<|qB rfl ty36<|qA rfl<|Nl<|Wq<|Wq<|qW 7 15 rfl<|qF rfl ty36 rfl<|qL rfl ty34 rfl<|qE rfl<|qM rfl<|qD rfl ‹_› rfl<|qD rfl ‹_› rfl<|qD rfl ‹_› rfl<|qP rfl ‹_› rfl<|Nl<|Wo rfl rfl<|Wu<|Wq<|Wq<|qW 26 29 rfl<|qF rfl ty36 rfl<|qL rfl ty34 rfl<|qE rfl<|Nl<|Wt rfl ‹_›<|qW 33 38 rfl<|qF rfl ty36 rfl<|qL rfl ty34 rfl<|Od rfl rfl (LO.sub_in rfl rfl rfl (IntWalk.u64_in _ (by omega)))<|qF rfl ty36 rfl<|qS rfl ty34 (Sl rfl) rfl<|Nl<|Wq<|qW 42 47 rfl<|qF rfl ty36 rfl<|qL rfl ty34 rfl<|Od rfl rfl (LO.sub rfl rfl rfl)<|qF rfl ty36 rfl<|qS rfl ty34 (Sl rfl) rfl<|Nl ?_
   rw [hw,hh]
   refine Wq<|qW 51 54 rfl<|qG rfl ty36 rfl (Tl rfl)<|qS rfl ty36 (Sl rfl) rfl<|qA rfl<|Nl<|Wz ⟨.inl rfl,_,mt,(Rc (Ra0 rfl rfl ty36 rfl (Tl rfl)) (Rc (Rt0 rfl) Rv)),aM,?_⟩
   exact ⟨by rw [f2];rfl,rfl⟩
  ·have g1:(a.lo == 0)=false:=by simp [hl]
   have hh:a.lo - 1=b.lo:=by omega
   have hi:a.hi=b.hi:=by omega
   rcases Bool.eq_false_or_eq_true (a.hi == 0) with g2|g2
   ·
    refine Wq<|qW 0 3 rfl<|qC rfl<|qB rfl ty36<|qA rfl<|Nl<|Wq<|Wq<|qW 7 15 rfl<|qF rfl ty36 rfl<|qL rfl ty34 rfl<|qE rfl<|qM rfl<|gF rfl ‹_› ty36 rfl<|gL rfl ‹_› ty34 rfl<|gE rfl ‹_›<|qT rfl ‹_› rfl<|Nl<|Wo rfl ‹_›<|Wu<|Wq<|Wq<|qW 26 29 rfl<|qF rfl ty36 rfl<|qL rfl ty34 rfl<|qE rfl<|Nl<|Wo rfl ‹_›<|Wu<|Wq<|qW 42 47 rfl<|qF rfl ty36 rfl<|qL rfl ty34 rfl<|Od rfl rfl (LO.sub_in rfl rfl rfl (IntWalk.u64_in _ (by omega)))<|qF rfl ty36 rfl<|qS rfl ty34 (Sl rfl) rfl<|Nl ?_
    rw [hh]
    refine Wq<|qW 51 54 rfl<|qG rfl ty36 rfl (Tl rfl)<|qS rfl ty36 (Sl rfl) rfl<|qA rfl<|Nl<|Wz ⟨.inl rfl,_,mt,(Rc (Ra0 rfl rfl ty36 rfl (Tl rfl)) (Rc (Rt0 rfl) Rv)),aM,?_⟩
    exact ⟨by rw [f2,hi];rfl,rfl⟩
   ·
    refine Wq<|qW 0 3 rfl<|qC rfl<|qB rfl ty36<|qA rfl<|Nl<|Wq<|Wq<|qW 7 15 rfl<|qF rfl ty36 rfl<|qL rfl ty34 rfl<|qE rfl<|qM rfl<|qD rfl ‹_› rfl<|qD rfl ‹_› rfl<|qD rfl ‹_› rfl<|qP rfl ‹_› rfl<|Nl<|Wo rfl rfl<|Wu<|Wq<|Wq<|qW 26 29 rfl<|qF rfl ty36 rfl<|qL rfl ty34 rfl<|qE rfl<|Nl<|Wo rfl ‹_›<|Wu<|Wq<|qW 42 47 rfl<|qF rfl ty36 rfl<|qL rfl ty34 rfl<|Od rfl rfl (LO.sub_in rfl rfl rfl (IntWalk.u64_in _ (by omega)))<|qF rfl ty36 rfl<|qS rfl ty34 (Sl rfl) rfl<|Nl ?_
    rw [hh]
    refine Wq<|qW 51 54 rfl<|qG rfl ty36 rfl (Tl rfl)<|qS rfl ty36 (Sl rfl) rfl<|qA rfl<|Nl<|Wz ⟨.inl rfl,_,mt,(Rc (Ra0 rfl rfl ty36 rfl (Tl rfl)) (Rc (Rt0 rfl) Rv)),aM,?_⟩
    exact ⟨by rw [f2,hi];rfl,rfl⟩
theorem nnext_any (k:Int) (h:0≤k∧k≤4294967295):AFn Tryz.prog 444 0 [.base (.int .i64 k)] mt (.tup [.base (.int .i64 (k + 1)),.base (.bool (nxK k).isSome)]) mt:=by
 refine AFn.eq Tryz.func444 rfl rfl (Nat.le_of_ble_eq_true rfl) ?_
 have e:(nxK k).isSome=decide (k < 4294967295):=by
  unfold nxK
  by_cases c:k=4294967295
  ·rw [if_pos (.inl c),c];rfl
  ·rw [if_neg (by omega),decide_eq_true (by omega)];rfl
 rw [e]
 refine Wq<|qW 0 2 rfl<|qA rfl<|qA rfl<|Nl<|Wq<|qW 6 12 rfl<|qM rfl<|qZ rfl (iW _ (by omega))<|qM rfl<|qK rfl<|qA rfl<|qA rfl<|Nl<|Wz ⟨.inl rfl,_,mt,(Rc (Rt0 rfl) (Rc (Rt0 rfl) Rv)),aM,?_⟩
 exact ⟨rfl,rfl⟩
theorem nprev_any (k:Int) (h:0≤k∧k≤4294967295):AFn Tryz.prog 445 0 [.base (.int .i64 k)] mt (.tup [.base (.int .i64 (k - 1)),.base (.bool (pvK k).isSome)]) mt:=by
 refine AFn.eq Tryz.func445 rfl rfl (Nat.le_of_ble_eq_true rfl) ?_
 have e:(pvK k).isSome=decide (k > 0):=by
  unfold pvK
  by_cases c:k=0
  ·rw [if_pos (.inl c),c];rfl
  ·rw [if_neg (by omega),decide_eq_true (by omega)];rfl
 rw [e]
 refine Wq<|qW 0 2 rfl<|qA rfl<|qA rfl<|Nl<|Wq<|qW 6 12 rfl<|qM rfl<|Od rfl rfl (LO.sub_in rfl rfl rfl (iW _ (by omega)))<|qM rfl<|qGt rfl<|qA rfl<|qA rfl<|Nl<|Wz ⟨.inl rfl,_,mt,(Rc (Rt0 rfl) (Rc (Rt0 rfl) Rv)),aM,?_⟩
 exact ⟨rfl,rfl⟩
theorem plast_ok (p:Pre) (h:PreOk p):AFn Tryz.prog 46 0 [.agg (preC p)] mt (.agg (adC (adOf (plP p).2))) mt:=by
 refine AFn.eq Tryz.func46 rfl rfl (Nat.le_of_ble_eq_true rfl) ?_
 have hge:=h.ge
 have hle:=h.le
 have hva:=pvalid_ok p h
 have hwd:=pwidth_any p.ad
 have hms:=masks_any (frP p) frP_le
 have hw0:0≤widthA p.ad:=by unfold widthA;split<;>omega
 have hk:widthA p.ad - p.len=((frP p:Nat):Int):=by unfold frP;omega
 have hw2:widthA p.ad≤128:=by unfold widthA;split<;>omega
 rw [h.pl.2.2.2.1,← h.last_or]
 refine Wq<|qW 0 2 rfl<|qC rfl<|qB rfl ty36<|Nl<|Wq<|Wq<|qW 6 9 rfl<|qG rfl ty38 rfl (Tl rfl)<|qY rfl (hva) fok42 rfl<|qO rfl<|Nl<|Wo rfl rfl<|Wu<|Wq<|Wd 19 31 (by decide) rfl mixed rfl<|qF rfl ty38 rfl<|qG rfl ty36 rfl (Tl rfl)<|qY rfl (hwd) fok118 rfl<|qF rfl ty38 rfl<|qL rfl ty3 rfl<|Od rfl rfl (LO.sub_in rfl rfl rfl (iW _ (by omega))) ?_
 rw [hk]
 refine qY rfl (hms) fok124 rfl<|qM rfl<|qX rfl<|qX rfl<|qA rfl<|qA rfl<|Nl ⟨by kernel_rfl,(Wq<|qW 35 43 rfl<|qF rfl ty38 rfl<|qF rfl ty36 rfl<|qL rfl ty34 rfl<|qM rfl<|Od rfl rfl (LO.or rfl rfl rfl)<|qF rfl ty38 rfl<|qF rfl ty36 rfl<|qS rfl ty34 (Sl rfl) rfl<|Nl<|Wq<|qW 47 55 rfl<|qF rfl ty38 rfl<|qF rfl ty36 rfl<|qL rfl ty34 rfl<|qM rfl<|Od rfl rfl (LO.or rfl rfl rfl)<|qF rfl ty38 rfl<|qF rfl ty36 rfl<|qS rfl ty34 (Sl rfl) rfl<|Nl<|Wq<|qW 59 62 rfl<|qF rfl ty38 rfl<|qG rfl ty36 rfl (Tl rfl)<|qS rfl ty36 (Sl rfl) rfl<|Nl<|Wz ⟨.inl rfl,_,mt,(Rc (Ra0 rfl rfl ty36 rfl (Tl rfl)) Rv),aM,?_⟩)⟩
 exact ⟨rfl,rfl⟩
def ordA:List AV:=[.base (.func (.func 55) #[] #[]),.base (.func (.func 57) #[] #[]),.base (.func (.func 443) #[] #[])]
def ordN:List AV:=[.base (.func (.func 136) #[] #[]),.base (.func (.func 444) #[] #[]),.base (.func (.func 445) #[] #[])]
set_option maxHeartbeats 1000000 in
theorem of_any (r:Rsc) (h1:r.ad.length≤1000) (h2:r.ns.length≤1000):AFn Tryz.prog 50 0 [.agg (rscC r)] mt (.agg (rscC r)) mt:=by
 refine AFn.eq Tryz.func50 rfl rfl (Nat.le_of_ble_eq_true rfl) ?_
 obtain ⟨ad,ns⟩:=r
 dsimp only at h1 h2
 unfold rscC
 dsimp only
 refine Wq<|qW 0 2 rfl<|qC rfl<|qB rfl ty130<|Nl<|Wq<|qW 6 7 rfl<|qB rfl ty130<|Nl<|W.namec 7 (7 + 1) (q:=6) (j:=0) (sz:=6) rfl rfl (Sl rfl) (by decide) (by decide) (by decide)<|W.namec (7 + 1) (7 + 2) (q:=6) (j:=1) (sz:=2) rfl rfl (Sl rfl) (by decide) (by decide) (by decide)<|Wq<|Wq<|qW 11 15 rfl<|qF rfl ty46 rfl<|qL rfl ty43 rfl<|qH rfl ty43<|qM rfl<|Nl<|Wb<|W.rename [(0,0),(1,1),(2,6),(3,7),(4,(7 + 1))] 5 (by decide) ?_ ?_ (W.loop_ind (α:=Nat) (fun x=>ad.length - x) 5 (fun x=>up (up (up (up (up (up mt 1 (some (.own 0 0))) 2 (some (.own 1 0))) 3 (some (.own 2 0))) 9 (some (.isl (rngsC ad) ad.length))) 10 (some (.base (.int .i64 (ad.length:Int))))) 11 (some (.base (.int .i64 (x:Int))))) (fun x=>up (up (up (up (up mt 0 (some ([.isl (rngsC ad) ad.length,.isl (spnsC ns) ns.length]))) 1 (some ([.nils,.nils]))) 2 (some ([.osl 3 0 (ad.take x).length 6,.osl 4 0 0 2]))) 3 (some (rngsC (ad.take x)))) 4 (some ([]))) (fun x=>x≤ad.length) 0 (show 0≤ad.length from Nat.zero_le _) ?_)
 ·exact aR (aR (aR (aI (aI (aI aM)))))
 ·exact aU (kR rfl) (aU (kR rfl) (aU (kI rfl) (aU (kR rfl) (aU (kR rfl) aM))))
 rintro k hIA ihA
 try (dsimp only at hIA)
 try dsimp only
 obtain hk:=hIA
 have htl:(ad.take k).length=k:=by rw [List.length_take];omega
 by_cases hc:k < ad.length
 ·have g1:decide ((k:Int) < (ad.length:Int))=true:=decide_eq_true (by omega)
  have hkk:(k:Int) + 1=((k + 1:Nat):Int):=by omega
  have hut:=rng_tk' hc
  have hts:=take_s1 hc
  obtain ⟨u,hu⟩:∃ u,ad[k]=u:=⟨_,rfl⟩
  rw [hu] at hut hts
  refine Wq<|qW 19 20 rfl<|qK rfl<|Nl<|Wq<|Wt rfl ‹_›<|Wu<|Wq<|Wb<|Wq<|qW 24 28 rfl<|qJ rfl rfl ty43 ty80 (by omega)<|Od rfl rfl (Lg rfl rfl ty80 rfl hut)<|qB rfl ty80<|qS rfl ty80 (Sl rfl) rfl<|Nl<|qW 32 43 rfl<|qF rfl ty130 rfl<|qL rfl ty127 rfl<|qF rfl ty80 rfl<|qG rfl ty36 rfl (Tl rfl)<|qF rfl ty80 rfl<|qG rfl ty36 rfl (Tl rfl)<|Od rfl rfl (Bs rfl ty217 (.cons rfl rfl rfl rfl (Sl rfl) (.cons rfl rfl rfl rfl (Sl rfl) .nil)))<|Od rfl rfl (LO.buildSlice rfl ty127 ty217 (by decide) (by decide) (.cons rfl rfl rfl rfl (Sl rfl) .nil))<|Od rfl rfl (Lap rfl rfl (Sso rfl rfl (Tl rfl)) rfl (rngs_all rfl) ty127 ty127 ty217 (by decide) (by omega) (by omega) (by decide))<|qF rfl ty130 rfl<|qS rfl ty127 (Sl rfl) rfl<|Nl ?_
  rw [rng_snocL,← hts,show (ad.take k).length + 1=(ad.take (k + 1)).length from by rw [hts];simp]
  refine qW 47 49 rfl<|qZ rfl (iW _ (by omega))<|qM rfl<|Nl ?_
  rw [hkk]
  refine WL.rename [(0,0),(1,1),(2,2),(3,40),(4,4)] 5 (by decide) ?_ ?_ (ihA (k + 1) (show ad.length - (k + 1) < ad.length - k from by omega) (show (k + 1)≤ad.length from hc))
  ·exact aR (aR (aR (aI (aI (aI aM)))))
  ·exact aU (kR rfl) (aU (kP rfl (rngsC_pure _)) (aU (kI rfl) (aU (kR rfl) (aU (kR rfl) aM))))
 ·have g1:decide ((k:Int) < (ad.length:Int))=false:=decide_eq_false (by omega)
  have htk:ad.take k=ad:=List.take_of_length_le (by omega)
  clear ihA
  rw [htk]
  refine Wq<|qW 19 20 rfl<|qK rfl<|Nl<|Wq<|Wo rfl ‹_›<|Wx<|Wq<|Wq<|qW 53 57 rfl<|qF rfl ty46 rfl<|qL rfl ty44 rfl<|qH rfl ty44<|qM rfl<|Nl<|Wb<|W.rename [(0,0),(1,1),(2,2),(3,3),(4,4)] 5 (by decide) ?_ ?_ (W.loop_ind (α:=Nat) (fun x=>ns.length - x) 5 (fun x=>up (up (up (up (up mt 2 (some (.own 1 0))) 3 (some (.own 2 0))) 27 (some (.isl (spnsC ns) ns.length))) 28 (some (.base (.int .i64 (ns.length:Int))))) 29 (some (.base (.int .i64 (x:Int))))) (fun x=>up (up (up (up mt 1 (some ([.nils,.nils]))) 2 (some ([.osl 3 0 ad.length 6,.osl 4 0 (ns.take x).length 2]))) 3 (some (rngsC ad))) 4 (some (spnsC (ns.take x)))) (fun x=>x≤ns.length) 0 (show 0≤ns.length from Nat.zero_le _) ?_)
  ·exact aR (aR (aR (aI (aI aM))))
  ·exact aU (kR rfl) (aU (kP rfl (rngsC_pure _)) (aU (kI rfl) (aU (kR rfl) aM)))
  rintro k hIB ihB
  try (dsimp only at hIB)
  try dsimp only
  obtain hk2:=hIB
  have htl2:(ns.take k).length=k:=by rw [List.length_take];omega
  by_cases hc:k < ns.length
  ·have g1:decide ((k:Int) < (ns.length:Int))=true:=decide_eq_true (by omega)
   have hkk:(k:Int) + 1=((k + 1:Nat):Int):=by omega
   have hut:=spn_tk' hc
   have hts:=take_s1 hc
   obtain ⟨u,hu⟩:∃ u,ns[k]=u:=⟨_,rfl⟩
   rw [hu] at hut hts
   refine Wq<|qW 61 62 rfl<|qK rfl<|Nl<|Wq<|Wt rfl ‹_›<|Wu<|Wq<|Wb<|Wq<|qW 66 70 rfl<|qJ rfl rfl ty44 ty125 (by omega)<|Od rfl rfl (Lg rfl rfl ty125 rfl hut)<|qB rfl ty125<|qS rfl ty125 (Sl rfl) rfl<|Nl<|qW 74 85 rfl<|qF rfl ty130 rfl<|qL rfl ty128 rfl<|qF rfl ty125 rfl<|qL rfl ty3 rfl<|qF rfl ty125 rfl<|qL rfl ty3 rfl<|Od rfl rfl (Bs rfl ty219 (.cons rfl rfl rfl rfl (Sl rfl) (.cons rfl rfl rfl rfl (Sl rfl) .nil)))<|Od rfl rfl (LO.buildSlice rfl ty128 ty219 (by decide) (by decide) (.cons rfl rfl rfl rfl (Sl rfl) .nil))<|Od rfl rfl (Lap rfl rfl (Sso rfl rfl (Tl rfl)) rfl (spns_all rfl) ty128 ty128 ty219 (by decide) (by omega) (by omega) (by decide))<|qF rfl ty130 rfl<|qS rfl ty128 (Sl rfl) rfl<|Nl ?_
   rw [spn_snocL,← hts,show (ns.take k).length + 1=(ns.take (k + 1)).length from by rw [hts];simp]
   refine qW 89 91 rfl<|qZ rfl (iW _ (by omega))<|qM rfl<|Nl ?_
   rw [hkk]
   refine WL.rename [(0,0),(1,1),(2,2),(3,3),(4,82)] 5 (by decide) ?_ ?_ (ihB (k + 1) (show ns.length - (k + 1) < ns.length - k from by omega) (show (k + 1)≤ns.length from hc))
   ·exact aR (aR (aR (aI (aI aM))))
   ·exact aU (kP rfl (spnsC_pure _)) (aU (kP rfl (rngsC_pure _)) (aU (kI rfl) (aU (kR rfl) aM)))
  ·have g1:decide ((k:Int) < (ns.length:Int))=false:=decide_eq_false (by omega)
   have htk2:ns.take k=ns:=List.take_of_length_le (by omega)
   clear ihB
   rw [htk2]
   refine Wq<|qW 61 62 rfl<|qK rfl<|Nl<|Wq<|Wo rfl ‹_›<|Wx<|Wv (q:=2) (j:=0) (r:=3) rfl rfl (by decide) rfl (rngs_all rfl) (rngsC_pure _) (Sl rfl)<|Wv (q:=2) (j:=1) (r:=4) rfl rfl (by decide) rfl (spns_all rfl) (spnsC_pure _) (Sl rfl)<|Wq<|qW 95 97 rfl<|qG rfl ty130 rfl (Tl rfl)<|qS rfl ty130 (Sl rfl) rfl<|Nl<|Wz ⟨.inl rfl,_,mt,(Rc (Ra0 rfl rfl ty130 rfl (Tl rfl)) Rv),aM,?_⟩
   exact ⟨rfl,rfl⟩
set_option maxHeartbeats 2000000 in
theorem validA_any (l:List (Int × Int)) (ha:Asc nxK l) (hi:∀ z∈l,InF z) (hn:l.length≤256):AFn Tryz.prog 133 0 [.agg ordA,.isl (rngsC l) l.length] mt (.base (.bool true)) mt:=by
 refine AFn.eq Tryz.func133 rfl rfl (Nat.le_of_ble_eq_true rfl)<|Wq<|qW 0 2 rfl<|qC rfl<|qA rfl<|Nl<|Wq<|Wq<|qW 6 9 rfl<|qM rfl<|qH rfl ty127<|qM rfl<|Nl<|Wb<|W.rename [(0,0)] 1 (by decide) ?_ ?_ (W.loop_ind (α:=Nat) (fun x=>l.length - x) 1 (fun x=>up (up (up (up (up mt 1 (some (.isl (rngsC l) l.length))) 2 (some (.own 0 0))) 9 (some (.isl (rngsC l) l.length))) 10 (some (.base (.int .i64 (l.length:Int))))) 11 (some (.base (.int .i64 (x:Int))))) (fun x=>up mt 0 (some (ordA))) (fun x=>x≤l.length) 0 (show 0≤l.length from Nat.zero_le _) ?_)
 ·exact aR (aR (aR (aI (aR aM))))
 ·exact aU (kR rfl) aM
 rintro k hIA ihA
 try (dsimp only at hIA)
 try dsimp only
 obtain hk:=hIA
 by_cases hc:k < l.length
 ·have g1:decide ((k:Int) < (l.length:Int))=true:=decide_eq_true (by omega)
  have hkk:(k:Int) + 1=((k + 1:Nat):Int):=by omega
  have hut:=rng_tk' hc
  have hui:=hi l[k] (List.getElem_mem hc)
  have hasc:∀ j,k=j + 1→∃ (hj:j < l.length),l[j].2 < l[k].1∧nxK l[j].2≠some l[k].1:=fun j hj=>by
   subst hj
   exact ⟨by omega,ha.at j hc⟩
  obtain ⟨u,hu⟩:∃ u,l[k]=u:=⟨_,rfl⟩
  rw [hu] at hut hui hasc
  have hcm:=acmp_pl u.1 u.2 hui.b1 hui.b2
  have d2:decide (cmpI u.1 u.2 > 0)=false:=by rw [cmpI_gt0];exact decide_eq_false (by have:=hui.1.1;omega)
  refine Wq<|qW 13 14 rfl<|qK rfl<|Nl<|Wq<|Wt rfl ‹_›<|Wu<|Wq<|Wb<|Wq<|qW 18 24 rfl<|qM rfl<|qJ rfl rfl ty127 ty217 (by omega)<|Od rfl rfl (Lg rfl rfl ty217 rfl hut)<|qB rfl ty217<|qA rfl<|qS rfl ty217 (Sl rfl) rfl<|Nl<|Wq<|Wq<|qW 28 36 rfl<|qF rfl ty134 rfl<|qL rfl ty81 rfl<|qF rfl ty217 rfl<|qG rfl ty36 rfl (Tl rfl)<|qF rfl ty217 rfl<|qG rfl ty36 rfl (Tl rfl)<|Od rfl rfl (LO.callF (fr:=[]) rfl rfl hcm fok55 (.cons rfl (.pure rfl) (.cons rfl (.pure rfl) .nil)) rfl)<|qGt rfl<|Nl<|Wo rfl ‹_›<|Wu ?_
  cases k with
  | zero =>
   refine Wq<|Wq<|qW 45 47 rfl<|qM rfl<|qE rfl<|Nl<|Wt rfl rfl<|Wx<|qW 103 105 rfl<|qZ rfl (iW _ (by omega))<|qM rfl<|Nl ?_
   rw [hkk]
   refine WL.rename [(0,0)] 1 (by decide) ?_ ?_ (ihA 1 (show l.length - 1 < l.length - 0 from by omega) (show 1≤l.length from hc))
   ·exact aR (aR (aR (aI (aR aM))))
   ·exact aU (kR rfl) aM
  | succ j =>
   have h0:(((j + 1:Nat):Int) == 0)=false:=by simp;omega
   obtain ⟨hj,ha1,ha2⟩:=hasc j rfl
   have hyi:=hi l[j] (List.getElem_mem hj)
   have hyt:=rng_toT hj (q:=j * 6 + 3) rfl
   obtain ⟨y,hy⟩:∃ y,l[j]=y:=⟨_,rfl⟩
   rw [hy] at ha1 ha2 hyi hyt
   have hsub:((j + 1:Nat):Int) - 1=((j:Nat):Int):=by omega
   have hnx:=anext_pl y.2 hyi.b2
   have hcm2:=acmp_pl y.2 u.1 hyi.b2 hui.b1
   have d3:decide (cmpI y.2 u.1 ≥ 0)=false:=by rw [cmpI_ge0];exact decide_eq_false (by omega)
   refine Wq<|Wq<|qW 45 47 rfl<|qM rfl<|qE rfl<|Nl<|Wo rfl rfl<|Wu<|Wq<|Wd 51 66 (by decide) rfl mixed rfl<|qF rfl ty134 rfl<|qL rfl ty132 rfl<|qM rfl<|qM rfl<|Od rfl rfl (LO.sub_in rfl rfl rfl (iW _ (by omega)))<|qJ rfl hsub ty127 ty217 (by omega)<|qI rfl ty217 rfl<|Od rfl rfl (Lg rfl rfl ty36 rfl hyt)<|Od rfl rfl (LO.callF (fr:=[]) rfl rfl hnx fok57 (.cons rfl (.pure rfl) .nil) rfl)<|qM rfl<|qX rfl<|qX rfl<|qB rfl ty36<|qS rfl ty36 (Sl rfl) rfl<|qA rfl<|Nl ⟨by kernel_rfl,?_⟩
   cases hq:nxK y.2 with
   | none =>
    rw [show (none:Option Int).isSome=false from rfl]
    refine Wq<|Wd 70 94 (by decide) rfl mixed rfl<|qF rfl ty134 rfl<|qL rfl ty81 rfl<|qM rfl<|qM rfl<|Od rfl rfl (LO.sub_in rfl rfl rfl (iW _ (by omega)))<|qJ rfl hsub ty127 ty217 (by omega)<|qI rfl ty217 rfl<|Od rfl rfl (Lg rfl rfl ty36 rfl hyt)<|qF rfl ty217 rfl<|qG rfl ty36 rfl (Tl rfl)<|Od rfl rfl (LO.callF (fr:=[]) rfl rfl hcm2 fok55 (.cons rfl (.pure rfl) (.cons rfl (.pure rfl) .nil)) rfl)<|qGe rfl<|qM rfl<|gM rfl ‹_›<|gM rfl ‹_›<|qD rfl rfl rfl<|qD rfl rfl rfl<|qD rfl rfl rfl<|qD rfl rfl rfl<|qD rfl rfl rfl<|qD rfl rfl rfl<|qD rfl rfl rfl<|qU rfl ‹_› rfl (Pf0 rfl rfl rfl rfl)<|qP rfl ‹_› rfl<|Nl ⟨by kernel_rfl,(Wo rfl rfl<|Wu<|qW 103 105 rfl<|qZ rfl (iW _ (by omega))<|qM rfl<|Nl ?_)⟩
    rw [hkk]
    refine WL.rename [(0,0)] 1 (by decide) ?_ ?_ (ihA (j + 1 + 1) (show l.length - (j + 1 + 1) < l.length - (j + 1) from by omega) (show (j + 1 + 1)≤l.length from hc))
    ·exact aR (aR (aR (aI (aR aM))))
    ·exact aU (kR rfl) aM
   | some n =>
    have hn2:0≤n∧n < topK:=by have h0:=nbK.nx1 _ _ hq;have:=hyi.b2;unfold nxK at hq;split at hq;cases hq;unfold topK at *;omega
    have hcm3:=acmp_pl n u.1 hn2 hui.b1
    have d4:(cmpI n u.1 == 0)=false:=by
     have hne:n≠u.1:=fun e=>ha2 (by rw [hq,e])
     rcases Int.lt_trichotomy n u.1 with h|h|h
     ·rw [cmpI_lt h];rfl
     ·exact absurd h hne
     ·rw [cmpI_gt h];rfl
    rw [show (some n).isSome=true from rfl,show (some n).getD 0=n from rfl]
    refine Wq<|Wd 70 94 (by decide) rfl mixed rfl<|qF rfl ty134 rfl<|qL rfl ty81 rfl<|qM rfl<|qM rfl<|Od rfl rfl (LO.sub_in rfl rfl rfl (iW _ (by omega)))<|qJ rfl hsub ty127 ty217 (by omega)<|qI rfl ty217 rfl<|Od rfl rfl (Lg rfl rfl ty36 rfl hyt)<|qF rfl ty217 rfl<|qG rfl ty36 rfl (Tl rfl)<|Od rfl rfl (LO.callF (fr:=[]) rfl rfl hcm2 fok55 (.cons rfl (.pure rfl) (.cons rfl (.pure rfl) .nil)) rfl)<|qGe rfl<|qM rfl<|gM rfl ‹_›<|gM rfl ‹_›<|gF rfl rfl ty134 rfl<|gL rfl rfl ty81 rfl<|gG rfl rfl ty36 rfl (Tl rfl)<|gF rfl rfl ty217 rfl<|gG rfl rfl ty36 rfl (Tl rfl)<|qU rfl rfl rfl (LO.callF (fr:=[]) rfl rfl hcm3 fok55 (.cons rfl (.pure rfl) (.cons rfl (.pure rfl) .nil)) rfl)<|gE rfl rfl<|qU rfl ‹_› rfl (Pt rfl rfl rfl rfl)<|qP rfl ‹_› rfl<|Nl ⟨by kernel_rfl,(Wo rfl ‹_›<|Wu<|qW 103 105 rfl<|qZ rfl (iW _ (by omega))<|qM rfl<|Nl ?_)⟩
    rw [hkk]
    refine WL.rename [(0,0)] 1 (by decide) ?_ ?_ (ihA (j + 1 + 1) (show l.length - (j + 1 + 1) < l.length - (j + 1) from by omega) (show (j + 1 + 1)≤l.length from hc))
    ·exact aR (aR (aR (aI (aR aM))))
    ·exact aU (kR rfl) aM
 ·have g1:decide ((k:Int) < (l.length:Int))=false:=decide_eq_false (by omega)
  clear ihA
  refine Wq<|qW 13 14 rfl<|qK rfl<|Nl<|Wq<|Wo rfl ‹_›<|Wx<|Wq<|qW 109 110 rfl<|qA rfl<|Nl<|Wz ⟨.inl rfl,_,mt,(Rc (Rt0 rfl) Rv),aM,?_⟩
  exact ⟨rfl,rfl⟩
set_option maxHeartbeats 2000000 in
theorem validN_any (l:List (Int × Int)) (ha:Asc nxK l) (hi:∀ z∈l,InN z) (hn:l.length≤256):AFn Tryz.prog 134 0 [.agg ordN,.isl (spnsC l) l.length] mt (.base (.bool true)) mt:=by
 refine AFn.eq Tryz.func134 rfl rfl (Nat.le_of_ble_eq_true rfl)<|Wq<|qW 0 2 rfl<|qC rfl<|qA rfl<|Nl<|Wq<|Wq<|qW 6 9 rfl<|qM rfl<|qH rfl ty128<|qM rfl<|Nl<|Wb<|W.rename [(0,0)] 1 (by decide) ?_ ?_ (W.loop_ind (α:=Nat) (fun x=>l.length - x) 1 (fun x=>up (up (up (up (up mt 1 (some (.isl (spnsC l) l.length))) 2 (some (.own 0 0))) 9 (some (.isl (spnsC l) l.length))) 10 (some (.base (.int .i64 (l.length:Int))))) 11 (some (.base (.int .i64 (x:Int))))) (fun x=>up mt 0 (some (ordN))) (fun x=>x≤l.length) 0 (show 0≤l.length from Nat.zero_le _) ?_)
 ·exact aR (aR (aR (aI (aR aM))))
 ·exact aU (kR rfl) aM
 rintro k hIA ihA
 try (dsimp only at hIA)
 try dsimp only
 obtain hk:=hIA
 by_cases hc:k < l.length
 ·have g1:decide ((k:Int) < (l.length:Int))=true:=decide_eq_true (by omega)
  have hkk:(k:Int) + 1=((k + 1:Nat):Int):=by omega
  have hut:=spn_tk' hc
  have hui:=hi l[k] (List.getElem_mem hc)
  have hasc:∀ j,k=j + 1→∃ (hj:j < l.length),l[j].2 < l[k].1∧nxK l[j].2≠some l[k].1:=fun j hj=>by
   subst hj
   exact ⟨by omega,ha.at j hc⟩
  obtain ⟨u,hu⟩:∃ u,l[k]=u:=⟨_,rfl⟩
  rw [hu] at hut hui hasc
  have hcm:=cmpi_any u.1 u.2
  have d2:decide (cmpI u.1 u.2 > 0)=false:=by rw [cmpI_gt0];exact decide_eq_false (by have:=hui.1;omega)
  refine Wq<|qW 13 14 rfl<|qK rfl<|Nl<|Wq<|Wt rfl ‹_›<|Wu<|Wq<|Wb<|Wq<|qW 18 24 rfl<|qM rfl<|qJ rfl rfl ty128 ty219 (by omega)<|Od rfl rfl (Lg rfl rfl ty219 rfl hut)<|qB rfl ty219<|qA rfl<|qS rfl ty219 (Sl rfl) rfl<|Nl<|Wq<|Wq<|qW 28 36 rfl<|qF rfl ty138 rfl<|qL rfl ty29 rfl<|qF rfl ty219 rfl<|qL rfl ty3 rfl<|qF rfl ty219 rfl<|qL rfl ty3 rfl<|Od rfl rfl (LO.callF (fr:=[]) rfl rfl hcm fok136 (.cons rfl (.pure rfl) (.cons rfl (.pure rfl) .nil)) rfl)<|qGt rfl<|Nl<|Wo rfl ‹_›<|Wu ?_
  cases k with
  | zero =>
   refine Wq<|Wq<|qW 45 47 rfl<|qM rfl<|qE rfl<|Nl<|Wt rfl rfl<|Wx<|qW 102 104 rfl<|qZ rfl (iW _ (by omega))<|qM rfl<|Nl ?_
   rw [hkk]
   refine WL.rename [(0,0)] 1 (by decide) ?_ ?_ (ihA 1 (show l.length - 1 < l.length - 0 from by omega) (show 1≤l.length from hc))
   ·exact aR (aR (aR (aI (aR aM))))
   ·exact aU (kR rfl) aM
  | succ j =>
   have h0:(((j + 1:Nat):Int) == 0)=false:=by simp;omega
   obtain ⟨hj,ha1,ha2⟩:=hasc j rfl
   have hyi:=hi l[j] (List.getElem_mem hj)
   have hyt:=spn_cellTo hj (q:=j * 2 + 1) rfl
   obtain ⟨y,hy⟩:∃ y,l[j]=y:=⟨_,rfl⟩
   rw [hy] at ha1 ha2 hyi hyt
   have hsub:((j + 1:Nat):Int) - 1=((j:Nat):Int):=by omega
   obtain ⟨y1,y2,y3⟩:=hyi
   have hu3:=hui.2.2
   have hu1:=hui.1
   have hnx:=nnext_any y.2 ⟨by omega,y3⟩
   have hcm2:=cmpi_any y.2 u.1
   have d3:decide (cmpI y.2 u.1 ≥ 0)=false:=by rw [cmpI_ge0];exact decide_eq_false (by omega)
   have hq:nxK y.2=some (y.2 + 1):=by unfold nxK;rw [if_neg (by omega)]
   have hcm3:=cmpi_any (y.2 + 1) u.1
   have d4:(cmpI (y.2 + 1) u.1 == 0)=false:=by
    have hne:y.2 + 1≠u.1:=fun e=>ha2 (by rw [hq,e])
    rw [cmpI_lt (by omega)];rfl
   rw [hq,show (some (y.2 + 1)).isSome=true from rfl] at hnx
   refine Wq<|Wq<|qW 45 47 rfl<|qM rfl<|qE rfl<|Nl<|Wo rfl rfl<|Wu<|Wq<|Wd 51 65 (by decide) rfl mixed rfl<|qF rfl ty138 rfl<|qL rfl ty136 rfl<|qM rfl<|qM rfl<|Od rfl rfl (LO.sub_in rfl rfl rfl (iW _ (by omega)))<|qJ rfl hsub ty128 ty219 (by omega)<|qI rfl ty219 rfl<|Od rfl rfl (Li rfl rfl hyt ty3 rfl)<|Od rfl rfl (LO.callF (fr:=[]) rfl rfl hnx fok444 (.cons rfl (.pure rfl) .nil) rfl)<|qM rfl<|qX rfl<|qX rfl<|qA rfl<|qA rfl<|Nl ⟨by kernel_rfl,(Wq<|Wd 69 93 (by decide) rfl mixed rfl<|qF rfl ty138 rfl<|qL rfl ty29 rfl<|qM rfl<|qM rfl<|Od rfl rfl (LO.sub_in rfl rfl rfl (iW _ (by omega)))<|qJ rfl hsub ty128 ty219 (by omega)<|qI rfl ty219 rfl<|Od rfl rfl (Li rfl rfl hyt ty3 rfl)<|qF rfl ty219 rfl<|qL rfl ty3 rfl<|Od rfl rfl (LO.callF (fr:=[]) rfl rfl hcm2 fok136 (.cons rfl (.pure rfl) (.cons rfl (.pure rfl) .nil)) rfl)<|qGe rfl<|qM rfl<|gM rfl ‹_›<|gM rfl ‹_›<|gF rfl rfl ty138 rfl<|gL rfl rfl ty29 rfl<|gM rfl rfl<|gF rfl rfl ty219 rfl<|gL rfl rfl ty3 rfl<|qU rfl rfl rfl (LO.callF (fr:=[]) rfl rfl hcm3 fok136 (.cons rfl (.pure rfl) (.cons rfl (.pure rfl) .nil)) rfl)<|gE rfl rfl<|qU rfl ‹_› rfl (Pt rfl rfl rfl rfl)<|qP rfl ‹_› rfl<|Nl ⟨by kernel_rfl,(Wo rfl ‹_›<|Wu<|qW 102 104 rfl<|qZ rfl (iW _ (by omega))<|qM rfl<|Nl ?_)⟩)⟩
   rw [hkk]
   refine WL.rename [(0,0)] 1 (by decide) ?_ ?_ (ihA (j + 1 + 1) (show l.length - (j + 1 + 1) < l.length - (j + 1) from by omega) (show (j + 1 + 1)≤l.length from hc))
   ·exact aR (aR (aR (aI (aR aM))))
   ·exact aU (kR rfl) aM
 ·have g1:decide ((k:Int) < (l.length:Int))=false:=decide_eq_false (by omega)
  clear ihA
  refine Wq<|qW 13 14 rfl<|qK rfl<|Nl<|Wq<|Wo rfl ‹_›<|Wx<|Wq<|qW 108 109 rfl<|qA rfl<|Nl<|Wz ⟨.inl rfl,_,mt,(Rc (Rt0 rfl) Rv),aM,?_⟩
  exact ⟨rfl,rfl⟩
end Go.Proofs.YtbfnfgpjgdbmeaaGreatDoor
