/-
  TopHolders returns true. Small functions of databases: whether an address is none, all members in a row. The ports of a small database. What the search for a text in a text answers, whatever the variable internal/bytealg.MaxLen holds.
-/
import Derived.Test.YtbfnfgpjgdbmeaaGreatDoorNv
import Derived.Test.YtbfnfgpjgdbmeaaGreatDoorQe
import Derived.Test.YtbfnfgpjgdbmeaaGreatDoorMab
import Derived.Shelf.Strings.Search2
import Derived.Test.YtbfnfgpjgdbmeaaGreatDoorNs
namespace Go.Proofs.YtbfnfgpjgdbmeaaGreatDoor
open Go.RowKit
def bkC (cs:List CertR) (as_:List Int) (now:Int) (s:SgR) (x:ObjR) (c:CertR):Bool:=c.key == s.key && hasR c.r.ad (plP x.p).1 (plP x.p).2 && chB cs as_ now 17 c 16
theorem backs {cs:List CertR} {ss:List SgR} {as_:List Int} {now:Int} {t:List Bool} (hcs:∀ z∈cs,CertOk z) (hT:TrI cs as_ now t) {x:ObjR} (h:∃ s∈ss,x∈s.os∧GoodS cs t now s):∃ s∈ss,x∈s.os∧(s.fr≤now∧now≤s.un)∧∃ c∈cs,bkC cs as_ now s x c=true:=by
 obtain ⟨s,hs,hx,hnow,i,c,h1,h2,h3,h4⟩:=h
 have hh:hasR c.r.ad (plP x.p).1 (plP x.p).2=true:=by
  unfold holdB at h4
  rw [Bool.not_eq_true',List.any_eq_false] at h4
  have:=h4 x hx
  simpa using this
 obtain ⟨c',k1,k2,k3,k4⟩:=tru_back hcs (hT.tr i c h1 h2) hh
 refine ⟨s,hs,hx,hnow,c',k1,?_⟩
 unfold bkC
 rw [k3,k4,k2,h3]
 simp
theorem mem_take_succ {α:Type} {l:List α} {k:Nat} (h:k < l.length) {z:α} (hz:z∈l.take (k + 1)):z∈l.take k∨z=l[k]:=by
 rw [take_s1 h] at hz
 rcases List.mem_append.1 hz with h1|h1
 ·exact .inl h1
 ·exact .inr (List.mem_singleton.1 h1)
set_option maxHeartbeats 8000000 in
theorem holders_law (haw:AFn Tryz.prog 12 0 [] mt (.base (.bool true)) mt) (l:List Int) (now0:Int) (hl:l.length≤9223372036854775807):AFn Tryz.prog 3 0 [.isl (l.map fun z=>.base (.int .i64 z)) l.length,.base (.int .i64 now0)] mt (.base (.bool true)) mt:=by
 refine AFn.eq Tryz.func3 rfl rfl (Nat.le_of_ble_eq_true rfl) ?_
 have hnew:=new_any l
 have hmd:=mod_any now0 14 (by decide) (by decide)
 obtain ⟨now,hnow⟩:∃ n,now0 % 14=n:=⟨_,rfl⟩
 rw [hnow] at hmd
 obtain ⟨_,_,hce,cs,a0,⟨hcs,hc0,hc9⟩,rfl,rfl⟩:=dcerts_any l 0 hl
 obtain ⟨_,_,hsi,ss,a1,⟨hss,hs5⟩,rfl,rfl⟩:=dsigned_any l a0 cs hcs hc0 hc9 hl
 obtain ⟨as_,has⟩:∃ a:List Int,[1,2,3]=a:=⟨_,rfl⟩
 have hal:as_.length=3:=by rw [← has];rfl
 have hint:(AV.base (.int .i64 1)::AV.base (.int .i64 2)::AV.base (.int .i64 3)::List.append [] (List.replicate 0 [AV.base (.int .i64 0)]).flatten)=intsC as_:=by rw [← has];rfl
 obtain ⟨_,_,hpl,t,m,⟨hT,hm15,hmg⟩,rfl,rfl⟩:=payloads_any cs ss as_ now hcs hss hc0 hc9 hs5 (by omega)
 have hbk:∀ ob∈m,∃ s∈ss,ob∈s.os∧(s.fr≤now∧now≤s.un)∧∃ c∈cs,bkC cs as_ now s ob c=true:=fun ob hx=>backs hcs hT (hmg ob hx)
 have hmp:∀ ob∈m,PreOk ob.p:=fun ob hx=>by
  obtain ⟨s,hs,hxs,_⟩:=hbk ob hx
  exact ((hss s hs).o ob hxs).p
 rw [hal] at hpl
 have hchd:=chained_any cs as_ now hcs hc9 (by omega) 17
 rw [hal] at hchd
 clear hmg hT hnow has
 refine Wq<|qW 0 1 rfl<|qA rfl<|Nl<|Wq<|qW 5 8 rfl<|qM rfl<|Od rfl rfl (CN (fr:=[]) rfl rfl (hnew) fok5 (.cons rfl (.pure rfl) .nil) rfl (by decide))<|qA rfl<|Nl<|Wq<|qW 12 15 rfl<|qM rfl<|Od rfl rfl (C1 (fr:=[]) rfl rfl (hce) fok6 (.own rfl rfl .nil) rfl rfl rfl (Cn _ _) (by decide) rfl)<|qA rfl<|Nl<|Wq<|qW 19 23 rfl<|qM rfl<|qM rfl<|Od rfl rfl (C1 (fr:=[]) rfl rfl (hsi) fok7 (.own rfl rfl (.cons rfl (.pure rfl) .nil)) rfl rfl rfl (Cn _ _) (by decide) rfl)<|qA rfl<|Nl<|Wq<|qW 27 29 rfl<|Od rfl rfl (LO.buildSlice rfl ty22 ty3 (by decide) (by decide) (.cons rfl rfl rfl rfl (Sl rfl) (.cons rfl rfl rfl rfl (Sl rfl) (.cons rfl rfl rfl rfl (Sl rfl) .nil))))<|qA rfl<|Nl ?_
 rw [hint]
 refine Wy (t:=8) (vs:=intsC as_) rfl rfl (ints_tk hal) (intsC_pure _)<|Wq<|qW 33 36 rfl<|qM rfl<|qY rfl (hmd) fok8 rfl<|qA rfl<|Nl<|Wq<|qW 40 50 rfl<|qM rfl<|qM rfl<|qM rfl<|qM rfl<|qY rfl (hpl) fok9 rfl<|qM rfl<|qX rfl<|qX rfl<|qA rfl<|qA rfl<|Nl<|Wq<|Wq<|qW 54 56 rfl<|qM rfl<|qN rfl<|Nl<|Wo rfl rfl<|Wu<|Wq<|Wq<|qW 65 68 rfl<|qM rfl<|qH rfl ty30<|qM rfl<|Nl<|Wb<|W.rename [] 0 (by decide) ?_ ?_ (W.loop_ind (α:=Nat) (fun x=>m.length - x) 0 (fun x=>up (up (up (up (up (up (up mt 1 (some (.base (.int .i64 now)))) 6 (some (.isl (certsC cs) cs.length))) 7 (some (.isl (sgsC ss) ss.length))) 8 (some (.isl (intsC as_) 3))) 41 (some (.isl (objsC m) m.length))) 42 (some (.base (.int .i64 (m.length:Int))))) 43 (some (.base (.int .i64 (x:Int))))) (fun x=>mt) (fun x=>x≤m.length) 0 (show 0≤m.length from Nat.zero_le _) ?_)
 ·exact aR (aR (aR (aR (aR (aR (aR aM))))))
 ·exact aM
 rintro k hIA ihA
 try (dsimp only at hIA)
 try dsimp only
 obtain hk:=hIA
 by_cases hc:k < m.length
 ·have g1:decide ((k:Int) < (m.length:Int))=true:=decide_eq_true (by omega)
  have hkk:(k:Int) + 1=((k + 1:Nat):Int):=by omega
  have hxt:=objs_tk hc
  have hxm:=List.getElem_mem hc
  obtain ⟨ob,hx⟩:∃ ob,m[k]=ob:=⟨_,rfl⟩
  rw [hx] at hxt hxm
  have hxb:=hbk ob hxm
  have hxp:=hmp ob hxm
  refine Wq<|qW 72 73 rfl<|qK rfl<|Nl<|Wq<|Wt rfl ‹_›<|Wu<|Wq<|Wb<|Wq<|qW 77 81 rfl<|qJ rfl rfl ty30 ty40 (by omega)<|Od rfl rfl (Lg rfl rfl ty40 rfl hxt)<|qB rfl ty40<|qS rfl ty40 (Sl rfl) rfl<|Nl<|Wq<|qW 85 86 rfl<|qA rfl<|Nl<|Wq<|Wq<|qW 90 93 rfl<|qM rfl<|qH rfl ty27<|qM rfl<|Nl<|Wb<|W.rename [(0,79)] 1 (by decide) ?_ ?_ (W.loop_ind (α:=Nat × Bool) (fun x=>ss.length - x.1) 1 (fun x=>up (up (up (up (up (up (up (up (up (up (up (up mt 1 (some (.base (.int .i64 now)))) 6 (some (.isl (certsC cs) cs.length))) 7 (some (.isl (sgsC ss) ss.length))) 8 (some (.isl (intsC as_) 3))) 12 (some (.own 0 0))) 13 (some (.base (.bool x.2)))) 41 (some (.isl (objsC m) m.length))) 42 (some (.base (.int .i64 (m.length:Int))))) 43 (some (.base (.int .i64 (k:Int))))) 47 (some (.isl (sgsC ss) ss.length))) 48 (some (.base (.int .i64 (ss.length:Int))))) 49 (some (.base (.int .i64 (x.1:Int))))) (fun x=>up mt 0 (some (objC ob))) (fun x=>x.1≤ss.length∧∀ s∈ss.take x.1,(ob∈s.os∧(s.fr≤now∧now≤s.un)∧∃ c∈cs,bkC cs as_ now s ob c=true)→x.2=true) (0,false) (show 0≤ss.length∧∀ s∈ss.take 0,(ob∈s.os∧(s.fr≤now∧now≤s.un)∧∃ c∈cs,bkC cs as_ now s ob c=true)→false=true from ⟨Nat.zero_le _,fun s hs=>by simp at hs⟩) ?_)
  ·exact aR (aR (aR (aR (aR (aR (aR (aI (aR (aR (aR (aR aM)))))))))))
  ·exact aU (kR rfl) aM
  rintro ⟨i,bk⟩ hIB ihB
  try (dsimp only at hIB)
  try dsimp only
  obtain ⟨hi,hB⟩:=hIB
  by_cases hcs2:i < ss.length
  ·have g2:decide ((i:Int) < (ss.length:Int))=true:=decide_eq_true (by omega)
   have hii:(i:Int) + 1=((i + 1:Nat):Int):=by omega
   have hst:=sg_tk' hcs2
   have hso:=hss ss[i] (List.getElem_mem hcs2)
   have hmt:=fun z=>mem_take_succ hcs2 (z:=z)
   obtain ⟨s,hs⟩:∃ s,ss[i]=s:=⟨_,rfl⟩
   rw [hs] at hst hso
   simp only [hs] at hmt
   refine Wq<|qW 97 98 rfl<|qK rfl<|Nl<|Wq<|Wt rfl ‹_›<|Wu<|Wq<|Wb<|Wq<|qW 102 106 rfl<|qJ rfl rfl ty27 ty42 (by omega)<|Od rfl rfl (Lg rfl rfl ty42 rfl hst)<|qB rfl ty42<|qS rfl ty42 (Sl rfl) rfl<|Nl<|Wq<|qW 110 111 rfl<|qA rfl<|Nl<|Wq<|Wq<|qW 115 119 rfl<|qF rfl ty42 rfl<|qL rfl ty30 rfl<|qH rfl ty30<|qM rfl<|Nl<|Wb<|W.rename [(0,0),(1,104)] 2 (by decide) ?_ ?_ (W.loop_ind (α:=Nat × Bool) (fun x=>s.os.length - x.1) 2 (fun x=>up (up (up (up (up (up (up (up (up (up (up (up (up (up (up (up (up mt 1 (some (.base (.int .i64 now)))) 6 (some (.isl (certsC cs) cs.length))) 7 (some (.isl (sgsC ss) ss.length))) 8 (some (.isl (intsC as_) 3))) 12 (some (.own 0 0))) 13 (some (.base (.bool bk)))) 15 (some (.own 1 0))) 16 (some (.base (.bool x.2)))) 41 (some (.isl (objsC m) m.length))) 42 (some (.base (.int .i64 (m.length:Int))))) 43 (some (.base (.int .i64 (k:Int))))) 47 (some (.isl (sgsC ss) ss.length))) 48 (some (.base (.int .i64 (ss.length:Int))))) 49 (some (.base (.int .i64 (i:Int))))) 54 (some (.isl (objsC s.os) s.os.length))) 55 (some (.base (.int .i64 (s.os.length:Int))))) 56 (some (.base (.int .i64 (x.1:Int))))) (fun x=>up (up mt 0 (some (objC ob))) 1 (some (sgC s))) (fun x=>x.1≤s.os.length∧∀ y∈s.os.take x.1,y=ob→x.2=true) (0,false) (show 0≤s.os.length∧∀ y∈s.os.take 0,y=ob→false=true from ⟨Nat.zero_le _,fun s hs=>by simp at hs⟩) ?_)
   ·exact aR (aR (aR (aR (aR (aR (aR (aR (aR (aR (aI (aR (aI (aR (aR (aR (aR aM))))))))))))))))
   ·exact aU (kR rfl) (aU (kR rfl) aM)
   rintro ⟨j,sd⟩ hIC ihC
   try (dsimp only at hIC)
   try dsimp only
   obtain ⟨hj,hC⟩:=hIC
   by_cases hcj:j < s.os.length
   ·have g3:decide ((j:Int) < (s.os.length:Int))=true:=decide_eq_true (by omega)
    have hjj:(j:Int) + 1=((j + 1:Nat):Int):=by omega
    have hyt:=objs_tk hcj
    have hol:=hso.ol
    have hmy:=fun z=>mem_take_succ hcj (z:=z)
    obtain ⟨y,hy⟩:∃ y,s.os[j]=y:=⟨_,rfl⟩
    rw [hy] at hyt
    simp only [hy] at hmy
    refine Wq<|qW 123 124 rfl<|qK rfl<|Nl<|Wq<|Wt rfl ‹_›<|Wu<|Wq<|Wb<|Wq<|qW 128 132 rfl<|qJ rfl rfl ty30 ty40 (by omega)<|Od rfl rfl (Lg rfl rfl ty40 rfl hyt)<|qB rfl ty40<|qS rfl ty40 (Sl rfl) rfl<|Nl ?_
    cases hsd:sd with
    | true =>
     refine qW 136 143 rfl<|qM rfl<|qM rfl<|qD rfl rfl rfl<|qD rfl rfl rfl<|qD rfl rfl rfl<|qT rfl rfl rfl<|qA rfl<|Nl<|qW 147 149 rfl<|qZ rfl (iW _ (by omega))<|qM rfl<|Nl ?_
     rw [hjj]
     refine WL.rename [(0,0),(1,1)] 2 (by decide) ?_ ?_ (ihC ((j + 1),true) (show s.os.length - (j + 1) < s.os.length - j from by omega) (show (j + 1)≤s.os.length∧∀ y∈s.os.take (j + 1),y=ob→true=true from ⟨by omega,fun _ _ _=>rfl⟩))
     ·exact aR (aR (aR (aR (aR (aR (aR (aR (aR (aR (aI (aR (aI (aR (aR (aR (aR aM))))))))))))))))
     ·exact aU (kR rfl) (aU (kR rfl) aM)
    | false =>
     have hE:=fun {o:Oper} {E:Operand→Option AV} {H:Hp} {f:Nat} {ty:TypeId} {x y':Operand}=>LO.eql_obj (o:=o) (E:=E) (H:=H) (f:=f) (ty:=ty) (x:=x) (y:=y') y ob
     obtain ⟨qq,hqq⟩:∃ v,eqObj y ob=v:=⟨_,rfl⟩
     rw [hqq] at hE
     refine qW 136 143 rfl<|qM rfl<|qM rfl<|gG rfl rfl ty40 rfl (Tl rfl)<|gG rfl rfl ty40 rfl (Tl rfl)<|qU rfl rfl rfl (hE rfl rfl rfl)<|qP rfl rfl rfl<|qA rfl<|Nl<|qW 147 149 rfl<|qZ rfl (iW _ (by omega))<|qM rfl<|Nl ?_
     rw [hjj]
     refine WL.rename [(0,0),(1,1)] 2 (by decide) ?_ ?_ (ihC ((j + 1),qq) (show s.os.length - (j + 1) < s.os.length - j from by omega) (show (j + 1)≤s.os.length∧∀ y∈s.os.take (j + 1),y=ob→qq=true from ⟨by omega,fun z hz e=>by rcases hmy z hz with h|h;exact absurd (hC z h e) (by rw [hsd];simp);subst h;subst e;exact hqq.symm.trans ((eqObj_iff _ _).2 rfl)⟩))
     ·exact aR (aR (aR (aR (aR (aR (aR (aR (aR (aR (aI (aR (aI (aR (aR (aR (aR aM))))))))))))))))
     ·exact aU (kR rfl) (aU (kR rfl) aM)
   ·have g3:decide ((j:Int) < (s.os.length:Int))=false:=decide_eq_false (by omega)
    rw [List.take_of_length_le (by omega)] at hC
    clear ihC
    cases hsd:sd with
    | false =>
     refine Wq<|qW 123 124 rfl<|qK rfl<|Nl<|Wq<|Wo rfl ‹_›<|Wx<|Wq<|Wq<|qW 153 167 rfl<|qM rfl<|qO rfl<|qM rfl<|qD rfl rfl rfl<|qD rfl rfl rfl<|qD rfl rfl rfl<|qD rfl rfl rfl<|qT rfl rfl rfl<|qM rfl<|qD rfl rfl rfl<|qD rfl rfl rfl<|qD rfl rfl rfl<|qD rfl rfl rfl<|qT rfl rfl rfl<|Nl<|Wt rfl rfl<|Wx<|qW 224 226 rfl<|qZ rfl (iW _ (by omega))<|qM rfl<|Nl ?_
     rw [hii]
     refine WL.rename [(0,0)] 1 (by decide) ?_ ?_ (ihB ((i + 1),bk) (show ss.length - (i + 1) < ss.length - i from by omega) (show (i + 1)≤ss.length∧∀ s∈ss.take (i + 1),(ob∈s.os∧(s.fr≤now∧now≤s.un)∧∃ c∈cs,bkC cs as_ now s ob c=true)→bk=true from ⟨by omega,fun z hz h=>by rcases hmt z hz with h1|h1;exact hB z h1 h;subst h1;exact absurd (hC ob h.1 rfl) (by rw [hsd];simp)⟩))
     ·exact aR (aR (aR (aR (aR (aR (aR (aI (aR (aR (aR (aR aM)))))))))))
     ·exact aU (kR rfl) aM
    | true =>
     by_cases hf:s.fr > now
     ·have g4:decide (s.fr > now)=true:=decide_eq_true hf
      refine Wq<|qW 123 124 rfl<|qK rfl<|Nl<|Wq<|Wo rfl ‹_›<|Wx<|Wq<|Wq<|qW 153 167 rfl<|qM rfl<|qO rfl<|qM rfl<|gF rfl rfl ty42 rfl<|gL rfl rfl ty3 rfl<|gM rfl rfl<|gGt rfl rfl<|qP rfl rfl rfl<|qM rfl<|qD rfl ‹_› rfl<|qD rfl ‹_› rfl<|qD rfl ‹_› rfl<|qD rfl ‹_› rfl<|qT rfl ‹_› rfl<|Nl<|Wt rfl rfl<|Wx<|qW 224 226 rfl<|qZ rfl (iW _ (by omega))<|qM rfl<|Nl ?_
      rw [hii]
      refine WL.rename [(0,0)] 1 (by decide) ?_ ?_ (ihB ((i + 1),bk) (show ss.length - (i + 1) < ss.length - i from by omega) (show (i + 1)≤ss.length∧∀ s∈ss.take (i + 1),(ob∈s.os∧(s.fr≤now∧now≤s.un)∧∃ c∈cs,bkC cs as_ now s ob c=true)→bk=true from ⟨by omega,fun z hz h=>by rcases hmt z hz with h1|h1;exact hB z h1 h;subst h1;exact absurd h.2.1.1 (by omega)⟩))
      ·exact aR (aR (aR (aR (aR (aR (aR (aI (aR (aR (aR (aR aM)))))))))))
      ·exact aU (kR rfl) aM
     ·have g4:decide (s.fr > now)=false:=decide_eq_false hf
      by_cases hu:s.un < now
      ·have g5:decide (s.un < now)=true:=decide_eq_true hu
       refine Wq<|qW 123 124 rfl<|qK rfl<|Nl<|Wq<|Wo rfl ‹_›<|Wx<|Wq<|Wq<|qW 153 167 rfl<|qM rfl<|qO rfl<|qM rfl<|gF rfl rfl ty42 rfl<|gL rfl rfl ty3 rfl<|gM rfl rfl<|gGt rfl rfl<|qP rfl rfl rfl<|qM rfl<|gF rfl ‹_› ty42 rfl<|gL rfl ‹_› ty3 rfl<|gM rfl ‹_›<|gK rfl ‹_›<|qP rfl ‹_› rfl<|Nl<|Wt rfl ‹_›<|Wx<|qW 224 226 rfl<|qZ rfl (iW _ (by omega))<|qM rfl<|Nl ?_
       rw [hii]
       refine WL.rename [(0,0)] 1 (by decide) ?_ ?_ (ihB ((i + 1),bk) (show ss.length - (i + 1) < ss.length - i from by omega) (show (i + 1)≤ss.length∧∀ s∈ss.take (i + 1),(ob∈s.os∧(s.fr≤now∧now≤s.un)∧∃ c∈cs,bkC cs as_ now s ob c=true)→bk=true from ⟨by omega,fun z hz h=>by rcases hmt z hz with h1|h1;exact hB z h1 h;subst h1;exact absurd h.2.1.2 (by omega)⟩))
       ·exact aR (aR (aR (aR (aR (aR (aR (aI (aR (aR (aR (aR aM)))))))))))
       ·exact aU (kR rfl) aM
      ·have g5:decide (s.un < now)=false:=decide_eq_false hu
       refine Wq<|qW 123 124 rfl<|qK rfl<|Nl<|Wq<|Wo rfl ‹_›<|Wx<|Wq<|Wq<|qW 153 167 rfl<|qM rfl<|qO rfl<|qM rfl<|gF rfl rfl ty42 rfl<|gL rfl rfl ty3 rfl<|gM rfl rfl<|gGt rfl rfl<|qP rfl rfl rfl<|qM rfl<|gF rfl ‹_› ty42 rfl<|gL rfl ‹_› ty3 rfl<|gM rfl ‹_›<|gK rfl ‹_›<|qP rfl ‹_› rfl<|Nl<|Wo rfl ‹_›<|Wu<|Wq<|qW 171 174 rfl<|qM rfl<|qH rfl ty25<|qM rfl<|Nl<|Wb<|W.rename [(0,0),(1,1)] 2 (by decide) ?_ ?_ (W.loop_ind (α:=Nat × Bool) (fun x=>cs.length - x.1) 2 (fun x=>up (up (up (up (up (up (up (up (up (up (up (up (up (up (up (up mt 1 (some (.base (.int .i64 now)))) 6 (some (.isl (certsC cs) cs.length))) 7 (some (.isl (sgsC ss) ss.length))) 8 (some (.isl (intsC as_) 3))) 12 (some (.own 0 0))) 13 (some (.base (.bool x.2)))) 15 (some (.own 1 0))) 41 (some (.isl (objsC m) m.length))) 42 (some (.base (.int .i64 (m.length:Int))))) 43 (some (.base (.int .i64 (k:Int))))) 47 (some (.isl (sgsC ss) ss.length))) 48 (some (.base (.int .i64 (ss.length:Int))))) 49 (some (.base (.int .i64 (i:Int))))) 81 (some (.isl (certsC cs) cs.length))) 82 (some (.base (.int .i64 (cs.length:Int))))) 83 (some (.base (.int .i64 (x.1:Int))))) (fun x=>up (up mt 0 (some (objC ob))) 1 (some (sgC s))) (fun x=>x.1≤cs.length∧(bk=true→x.2=true)∧∀ c∈cs.take x.1,bkC cs as_ now s ob c=true→x.2=true) (0,bk) (show 0≤cs.length∧(bk=true→bk=true)∧∀ c∈cs.take 0,bkC cs as_ now s ob c=true→bk=true from ⟨Nat.zero_le _,id,fun s hs=>by simp at hs⟩) ?_)
       ·exact aR (aR (aR (aR (aR (aR (aR (aR (aR (aI (aR (aI (aR (aR (aR (aR aM)))))))))))))))
       ·exact aU (kR rfl) (aU (kR rfl) aM)
       rintro ⟨j,bq⟩ hID ihD
       try (dsimp only at hID)
       try dsimp only
       obtain ⟨hj2,hmono,hD⟩:=hID
       by_cases hcj2:j < cs.length
       ·have g6:decide ((j:Int) < (cs.length:Int))=true:=decide_eq_true (by omega)
        have hjj:(j:Int) + 1=((j + 1:Nat):Int):=by omega
        have hct:=cert_tk' hcj2
        have hco:=hcs cs[j] (List.getElem_mem hcj2)
        have hmc:=fun z=>mem_take_succ hcj2 (z:=z)
        obtain ⟨c,hcc⟩:∃ c,cs[j]=c:=⟨_,rfl⟩
        rw [hcc] at hct hco
        simp only [hcc] at hmc
        have hhp:=rhas_any c.r hco.r ob.p hxp
        have hch:=hchd c 16 (by decide) (by decide) hco
        have hbv:bkC cs as_ now s ob c=(c.key == s.key && hasR c.r.ad (plP ob.p).1 (plP ob.p).2 && chB cs as_ now 17 c 16):=rfl
        unfold rscC at hhp
        refine Wq<|qW 178 179 rfl<|qK rfl<|Nl<|Wq<|Wt rfl ‹_›<|Wu<|Wq<|Wb<|Wq<|qW 183 187 rfl<|qJ rfl rfl ty25 ty48 (by omega)<|Od rfl rfl (Lg rfl rfl ty48 rfl hct)<|qB rfl ty48<|qS rfl ty48 (Sl rfl) rfl<|Nl ?_
        cases hbq:bq with
        | true =>
         refine qW 191 214 rfl<|qM rfl<|qM rfl<|qD rfl rfl rfl<|qD rfl rfl rfl<|qD rfl rfl rfl<|qD rfl rfl rfl<|qD rfl rfl rfl<|qD rfl rfl rfl<|Ud rfl rfl rfl rfl<|Ud rfl rfl rfl rfl<|Ud rfl rfl rfl rfl<|Ud rfl rfl rfl rfl<|Ud rfl rfl rfl rfl<|qD rfl rfl rfl<|qD rfl rfl rfl<|Ud rfl rfl rfl rfl<|Ud rfl rfl rfl rfl<|Ud rfl rfl rfl rfl<|Ud rfl rfl rfl rfl<|Ud rfl rfl rfl rfl<|qD rfl rfl rfl<|qT rfl rfl rfl<|qA rfl<|Nl<|qW 218 220 rfl<|qZ rfl (iW _ (by omega))<|qM rfl<|Nl ?_
         rw [hjj]
         refine WL.rename [(0,0),(1,1)] 2 (by decide) ?_ ?_ (ihD ((j + 1),true) (show cs.length - (j + 1) < cs.length - j from by omega) (show (j + 1)≤cs.length∧(bk=true→true=true)∧∀ c∈cs.take (j + 1),bkC cs as_ now s ob c=true→true=true from ⟨by omega,fun _=>rfl,fun _ _ _=>rfl⟩))
         ·exact aR (aR (aR (aR (aR (aR (aR (aR (aR (aI (aR (aI (aR (aR (aR (aR aM)))))))))))))))
         ·exact aU (kR rfl) (aU (kR rfl) aM)
        | false =>
         cases q1:(c.key == s.key) with
         | false =>
          have hv:bkC cs as_ now s ob c=false:=by rw [hbv,q1];rfl
          refine qW 191 214 rfl<|qM rfl<|qM rfl<|gF rfl rfl ty48 rfl<|gL rfl rfl ty3 rfl<|gF rfl rfl ty42 rfl<|gL rfl rfl ty3 rfl<|gE rfl rfl<|gM rfl rfl<|qD rfl ‹_› rfl<|qD rfl ‹_› rfl<|qD rfl ‹_› rfl<|qD rfl ‹_› rfl<|qD rfl ‹_› rfl<|qU rfl rfl rfl (Pf0 rfl rfl ‹_› rfl)<|gM rfl rfl<|qD rfl rfl rfl<|qD rfl rfl rfl<|qD rfl rfl rfl<|qD rfl rfl rfl<|qD rfl rfl rfl<|qU rfl rfl rfl (Pf0 rfl rfl rfl rfl)<|qP rfl rfl rfl<|qA rfl<|Nl<|qW 218 220 rfl<|qZ rfl (iW _ (by omega))<|qM rfl<|Nl ?_
          rw [hjj]
          refine WL.rename [(0,0),(1,1)] 2 (by decide) ?_ ?_ (ihD ((j + 1),false) (show cs.length - (j + 1) < cs.length - j from by omega) (show (j + 1)≤cs.length∧(bk=true→false=true)∧∀ c∈cs.take (j + 1),bkC cs as_ now s ob c=true→false=true from ⟨by omega,fun h=>by rw [← hbq];exact hmono h,fun z hz h=>by rcases hmc z hz with h1|h1;rw [← hbq];exact hD z h1 h;subst h1;rw [hv] at h;exact h⟩))
          ·exact aR (aR (aR (aR (aR (aR (aR (aR (aR (aI (aR (aI (aR (aR (aR (aR aM)))))))))))))))
          ·exact aU (kR rfl) (aU (kR rfl) aM)
         | true =>
          cases q2:hasR c.r.ad (plP ob.p).1 (plP ob.p).2 with
          | false =>
           have hv:bkC cs as_ now s ob c=false:=by rw [hbv,q2,Bool.and_false];rfl
           rw [q2] at hhp
           refine qW 191 214 rfl<|qM rfl<|qM rfl<|gF rfl rfl ty48 rfl<|gL rfl rfl ty3 rfl<|gF rfl rfl ty42 rfl<|gL rfl rfl ty3 rfl<|gE rfl rfl<|gM rfl rfl<|gF rfl ‹_› ty48 rfl<|gG rfl ‹_› ty46 rfl (Tl rfl)<|gF rfl ‹_› ty40 rfl<|gG rfl ‹_› ty38 rfl (Tl rfl)<|gY rfl ‹_› (hhp) fok10 rfl<|qU rfl rfl rfl (Pt rfl rfl ‹_› rfl)<|gM rfl rfl<|qD rfl rfl rfl<|qD rfl rfl rfl<|qD rfl rfl rfl<|qD rfl rfl rfl<|qD rfl rfl rfl<|qU rfl rfl rfl (Pf0 rfl rfl rfl rfl)<|qP rfl rfl rfl<|qA rfl<|Nl<|qW 218 220 rfl<|qZ rfl (iW _ (by omega))<|qM rfl<|Nl ?_
           rw [hjj]
           refine WL.rename [(0,0),(1,1)] 2 (by decide) ?_ ?_ (ihD ((j + 1),false) (show cs.length - (j + 1) < cs.length - j from by omega) (show (j + 1)≤cs.length∧(bk=true→false=true)∧∀ c∈cs.take (j + 1),bkC cs as_ now s ob c=true→false=true from ⟨by omega,fun h=>by rw [← hbq];exact hmono h,fun z hz h=>by rcases hmc z hz with h1|h1;rw [← hbq];exact hD z h1 h;subst h1;rw [hv] at h;exact h⟩))
           ·exact aR (aR (aR (aR (aR (aR (aR (aR (aR (aI (aR (aI (aR (aR (aR (aR aM)))))))))))))))
           ·exact aU (kR rfl) (aU (kR rfl) aM)
          | true =>
           have hv:bkC cs as_ now s ob c=chB cs as_ now 17 c 16:=by rw [hbv,q1,q2];rfl
           rw [q2] at hhp
           obtain ⟨vv,hvv⟩:∃ v,chB cs as_ now 17 c 16=v:=⟨_,rfl⟩
           rw [hvv] at hch hv
           refine qW 191 214 rfl<|qM rfl<|qM rfl<|gF rfl rfl ty48 rfl<|gL rfl rfl ty3 rfl<|gF rfl rfl ty42 rfl<|gL rfl rfl ty3 rfl<|gE rfl rfl<|gM rfl rfl<|gF rfl ‹_› ty48 rfl<|gG rfl ‹_› ty46 rfl (Tl rfl)<|gF rfl ‹_› ty40 rfl<|gG rfl ‹_› ty38 rfl (Tl rfl)<|gY rfl ‹_› (hhp) fok10 rfl<|qU rfl rfl rfl (Pt rfl rfl ‹_› rfl)<|gM rfl rfl<|gM rfl rfl<|gM rfl rfl<|gG rfl rfl ty48 rfl (Tl rfl)<|gM rfl rfl<|qU rfl rfl rfl (C0 (fr:=[]) rfl rfl (hch) fok11 (qArgs rfl rfl) rfl)<|qU rfl rfl rfl (Pt rfl rfl rfl rfl)<|qP rfl rfl rfl<|qA rfl<|Nl<|qW 218 220 rfl<|qZ rfl (iW _ (by omega))<|qM rfl<|Nl ?_
           rw [hjj]
           refine WL.rename [(0,0),(1,1)] 2 (by decide) ?_ ?_ (ihD ((j + 1),vv) (show cs.length - (j + 1) < cs.length - j from by omega) (show (j + 1)≤cs.length∧(bk=true→vv=true)∧∀ c∈cs.take (j + 1),bkC cs as_ now s ob c=true→vv=true from ⟨by omega,fun h=>absurd (hmono h) (by rw [hbq];simp),fun z hz h=>by rcases hmc z hz with h1|h1;exact absurd (hD z h1 h) (by rw [hbq];simp);subst h1;rw [← hv];exact h⟩))
           ·exact aR (aR (aR (aR (aR (aR (aR (aR (aR (aI (aR (aI (aR (aR (aR (aR aM)))))))))))))))
           ·exact aU (kR rfl) (aU (kR rfl) aM)
       ·have g6:decide ((j:Int) < (cs.length:Int))=false:=decide_eq_false (by omega)
        rw [List.take_of_length_le (by omega)] at hD
        clear ihD
        refine Wq<|qW 178 179 rfl<|qK rfl<|Nl<|Wq<|Wo rfl ‹_›<|Wx<|qW 224 226 rfl<|qZ rfl (iW _ (by omega))<|qM rfl<|Nl ?_
        rw [hii]
        refine WL.rename [(0,0)] 1 (by decide) ?_ ?_ (ihB ((i + 1),bq) (show ss.length - (i + 1) < ss.length - i from by omega) (show (i + 1)≤ss.length∧∀ s∈ss.take (i + 1),(ob∈s.os∧(s.fr≤now∧now≤s.un)∧∃ c∈cs,bkC cs as_ now s ob c=true)→bq=true from ⟨by omega,fun z hz h=>by rcases hmt z hz with h1|h1;exact hmono (hB z h1 h);subst h1;obtain ⟨_,_,c,k1,k2⟩:=h;exact hD c k1 k2⟩))
        ·exact aR (aR (aR (aR (aR (aR (aR (aI (aR (aR (aR (aR aM)))))))))))
        ·exact aU (kR rfl) aM
  ·have g2:decide ((i:Int) < (ss.length:Int))=false:=decide_eq_false (by omega)
   rw [List.take_of_length_le (by omega)] at hB
   have hbt:bk=true:=by
    obtain ⟨s,h1,h2⟩:=hxb
    exact hB s h1 h2
   clear ihB
   rw [hbt]
   refine Wq<|qW 97 98 rfl<|qK rfl<|Nl<|Wq<|Wo rfl ‹_›<|Wx<|Wq<|qW 230 232 rfl<|qM rfl<|qO rfl<|Nl<|Wo rfl rfl<|Wu<|qW 241 243 rfl<|qZ rfl (iW _ (by omega))<|qM rfl<|Nl ?_
   rw [hkk]
   refine WL.rename [] 0 (by decide) ?_ ?_ (ihA (k + 1) (show m.length - (k + 1) < m.length - k from by omega) (show (k + 1)≤m.length from hc))
   ·exact aR (aR (aR (aR (aR (aR (aR aM))))))
   ·exact aM
 ·have g1:decide ((k:Int) < (m.length:Int))=false:=decide_eq_false (by omega)
  clear ihA
  refine Wq<|qW 72 73 rfl<|qK rfl<|Nl<|Wq<|Wo rfl ‹_›<|Wx<|Wq<|qW 247 249 rfl<|qY rfl (haw) fok12 rfl<|qA rfl<|Nl<|Wz ⟨.inl rfl,_,mt,(Rc (Rt0 rfl) Rv),aM,?_⟩
  exact ⟨rfl,rfl⟩
theorem memsC_len (l:List Mem):(memsC l).length=l.length * 6:=by
 induction l with
 | nil=>rfl
 | cons x l ih=>rw [show memsC (x::l)=memC x++memsC l from rfl,List.length_append,ih,show (memC x).length=6 from rfl,List.length_cons];omega
theorem memsC_pure (l:List Mem):(memsC l).all AV.pure1=true:=by
 induction l with
 | nil=>rfl
 | cons x l ih=>rw [show memsC (x::l)=memC x++memsC l from rfl,List.all_append,ih];rfl
theorem mems_all {l:List Mem} {n:Nat} (h:l.length=n):Tk (memsC l) 0 (n * 6) (memsC l):=by
 have:=Tk.all (memsC l)
 rwa [memsC_len,h] at this
theorem all_any (d:Db) (h1:d.servers.length≤1000) (h2:d.members.length≤1000):AFn Tryz.prog 169 0 [.agg (dbC d)] mt (.isl (memsC (d.servers++d.members)) (d.servers++d.members).length) mt:=by
 refine AFn.eq Tryz.func169 rfl rfl (Nat.le_of_ble_eq_true rfl)<|Wq<|qW 0 2 rfl<|qC rfl<|qA rfl<|Nl<|Wq<|Wd 6 13 (by decide) rfl mixed rfl<|qF rfl ty86 rfl<|qL rfl ty84 rfl<|Od rfl rfl (Lan rfl rfl (Ssi rfl rfl (memsC_len _)) ty84 ty84 ty184 (by decide) (by omega) (by omega) (by decide))<|qF rfl ty86 rfl<|qL rfl ty84 rfl<|Od rfl rfl (Lap rfl rfl (Ssi rfl rfl (memsC_len _)) rfl (mems_all rfl) ty84 ty84 ty184 (by decide) (by omega) (by omega) (by decide))<|qA rfl<|Nl ⟨by kernel_rfl,?_⟩
 rw [show memsC d.servers++memsC d.members=memsC (d.servers++d.members) from by simp [memsC],show d.servers.length + d.members.length=(d.servers++d.members).length from by simp]
 refine Wy (t:=2) rfl rfl (mems_all rfl) (memsC_pure _)<|Wz ⟨.inl rfl,_,mt,Rc (Rt0 rfl) (Rv),aM,?_⟩
 exact ⟨rfl,rfl⟩
theorem macsC_len {l:List (List Int)} (h:∀ m,m∈l→m.length=6):(macsC l).length=l.length * 6:=by
 induction l with
 | nil=>rfl
 | cons x l ih=>rw [show macsC (x::l)=bytesC x++macsC l from rfl,List.length_append,ih (fun m hm=>h m (by simp [hm])),bytesC_len,h x (by simp),List.length_cons];omega
theorem macsC_pure (l:List (List Int)):(macsC l).all AV.pure1=true:=flatPure (fun m=>bytesC_pure m) l
theorem macs_all {l:List (List Int)} (h:∀ m,m∈l→m.length=6):Tk (macsC l) 0 (l.length * 6) (macsC l):=by
 have:=Tk.all (macsC l)
 rwa [macsC_len h] at this
theorem prtsC_pure (l:List Prt):(prtsC l).all AV.pure1=true:=flatPure (fun _=>rfl) l
theorem prts_all {l:List Prt} {n:Nat} (h:l.length=n):Tk (prtsC l) 0 (n * 10) (prtsC l):=flatAll (c:=prtC) (fun _=>rfl) h
theorem copyPort_any (p:Prt) (hm:∀ m,m∈p.macs→m.length=6) (hn:p.macs.length≤1000):AFn Tryz.prog 170 0 [.agg (prtC p)] mt (.agg (prtC p)) mt:=by
 refine AFn.eq Tryz.func170 rfl rfl (Nat.le_of_ble_eq_true rfl) ?_
 obtain ⟨id,sw,sp,ms,v4,v6⟩:=p
 dsimp only at hm hn
 have hl:=macsC_len hm
 refine Wq<|qW 0 2 rfl<|qC rfl<|qB rfl ty250<|Nl<|Wq<|qW 6 11 rfl<|qF rfl ty250 rfl<|qL rfl ty107 rfl<|Od rfl rfl (Lan rfl rfl (Ssi rfl rfl hl) ty107 ty107 ty96 (by decide) (by dsimp only;omega) (by dsimp only;omega) (by decide))<|qF rfl ty250 rfl<|qS rfl ty107 (Sl rfl) rfl<|Nl<|Wv (q:=0) (j:=3) (r:=8) rfl rfl (by decide) rfl (macs_all hm) (macsC_pure _) (Sl rfl)<|Wq<|qW 15 17 rfl<|qG rfl ty250 rfl (Tl rfl)<|qS rfl ty250 (Sl rfl) rfl<|Nl<|Wz ⟨.inl rfl,_,mt,(Rc (Ra0 rfl rfl ty250 rfl (Tl rfl)) Rv),aM,?_⟩
 exact ⟨rfl,rfl⟩
def allP (d:Db):List Prt:=(d.servers++d.members).flatMap (·.ports)
structure PrtS (p:Prt):Prop where
 nm:p.macs.length≤2
 macs:∀ m,m∈p.macs→m.length=6
structure MemS (m:Mem):Prop where
 np:m.ports.length≤4
 ports:∀ p,p∈m.ports→PrtS p
structure DbS (d:Db):Prop where
 ns:d.servers.length≤4
 nm:d.members.length≤32
 mem:∀ m,m∈d.servers++d.members→MemS m
def selP (L:List Prt) (n:Nat):List Prt:=L.filter fun p=>p.id == (n:Int)
def portsOf (d:Db):List Prt:=(List.range 1000).flatMap (selP (allP d))
theorem selP_app (a b:List Prt) (n:Nat):selP (a++b) n=selP a n++selP b n:=List.filter_append ..
set_option maxHeartbeats 1000000 in
theorem portsS_any (d:Db) (hd:DbS d) (hs:(portsOf d).length≤1000):AFn Tryz.prog 97 0 [.agg (dbC d)] mt (.isl (prtsC (portsOf d)) (portsOf d).length) mt:=by
 refine AFn.eq Tryz.func97 rfl rfl (Nat.le_of_ble_eq_true rfl) ?_
 have h4:=hd.ns
 have h32:=hd.nm
 have hmem:=hd.mem
 have hall:=all_any d (by omega) (by omega)
 unfold portsOf allP at hs ⊢
 obtain ⟨A,hA⟩:∃ A,A=d.servers++d.members:=⟨_,rfl⟩
 rw [← hA] at hall hmem hs ⊢
 obtain ⟨Z,hZ⟩:∃ Z,Z=A.flatMap (·.ports):=⟨_,rfl⟩
 rw [← hZ] at hs ⊢
 have hAl:A.length≤2000:=by rw [hA,List.length_append];omega
 refine Wq<|qW 0 2 rfl<|qC rfl<|qA rfl<|Nl<|Wq<|qW 6 7 rfl<|qA rfl<|Nl<|Wq<|Wq<|qW 11 12 rfl<|qA rfl<|Nl<|W.name 12 (12 + 1) (t:=3) (sz:=10) rfl (by decide) (by decide)<|Wb<|W.rename [(0,0),(1,12)] 2 (by decide) ?_ ?_ (W.loop_ind (α:=Nat) (fun x=>1000 - x) 2 (fun x=>up (up (up mt 1 (some (.own 0 0))) 3 (some (.osl 1 0 ((List.range x).flatMap (selP Z)).length 10))) 4 (some (.base (.int .i64 (x:Int))))) (fun x=>up (up mt 0 (some (dbC d))) 1 (some (prtsC ((List.range x).flatMap (selP Z))))) (fun x=>x≤1000) 0 (show 0≤1000 from Nat.zero_le _) ?_)
 ·exact aR (aI (aI aM))
 ·exact aU (kR rfl) (aU (kR rfl) aM)
 rintro n hIA ihA
 try (dsimp only at hIA)
 try dsimp only
 by_cases hc:n < 1000
 ·have g1:decide ((n:Int)≤999)=true:=decide_eq_true (by omega)
  have hpre:∀ X Y:List Prt,selP Z n=X++Y→((List.range n).flatMap (selP Z)++X).length≤1000:=fun X Y e=>by
   obtain ⟨k,hk⟩:∃ k,1000=n + 1 + k:=⟨1000 - (n + 1),by omega⟩
   rw [hk,List.range_add,List.flatMap_append,List.range_succ,List.flatMap_append] at hs
   simp only [List.flatMap_cons,List.flatMap_nil,List.append_nil,e,List.length_append] at hs ⊢
   omega
  have hnext:(List.range n).flatMap (selP Z)++selP Z n=(List.range (n + 1)).flatMap (selP Z):=by
   rw [List.range_succ,List.flatMap_append];simp
  generalize (List.range n).flatMap (selP Z)=R at *
  refine Wq<|Wq<|qW 16 18 rfl<|qM rfl<|qLe rfl<|Nl<|Wt rfl ‹_›<|Wu<|Wq<|Wb<|Wq<|qW 22 26 rfl<|qG rfl ty86 rfl (Tl rfl)<|qY rfl (hall) fok169 rfl<|qH rfl ty84<|qM rfl<|Nl ?_
  rw [show R=R++selP ((A.take 0).flatMap (·.ports)) n from by simp [selP]]
  refine Wb<|W.rename [(0,0),(1,1)] 2 (by decide) ?_ ?_ (W.loop_ind (α:=Nat) (fun x=>A.length - x) 2 (fun x=>up (up (up (up (up (up mt 1 (some (.own 0 0))) 3 (some (.osl 1 0 (R++selP ((A.take x).flatMap (·.ports)) n).length 10))) 4 (some (.base (.int .i64 (n:Int))))) 14 (some (.isl (memsC A) A.length))) 15 (some (.base (.int .i64 (A.length:Int))))) 16 (some (.base (.int .i64 (x:Int))))) (fun x=>up (up mt 0 (some (dbC d))) 1 (some (prtsC (R++selP ((A.take x).flatMap (·.ports)) n)))) (fun x=>x≤A.length) 0 (show 0≤A.length from Nat.zero_le _) ?_)
  ·exact aR (aR (aR (aR (aI (aI aM)))))
  ·exact aU (kP rfl (prtsC_pure _)) (aU (kR rfl) aM)
  rintro i hIB ihB
  try (dsimp only at hIB)
  try dsimp only
  by_cases hc2:i < A.length
  ·have g2:decide ((i:Int) < (A.length:Int))=true:=decide_eq_true (by omega)
   have hm:=hmem _ (List.getElem_mem hc2)
   have hps:=hm.ports
   have hnp:=hm.np
   have hfl:(A.take (i + 1)).flatMap (·.ports)=(A.take i).flatMap (·.ports)++A[i].ports:=by
    rw [List.take_add_one,List.flatMap_append]
    simp [hc2]
   have hsp:∃ Y,Z=((A.take i).flatMap (·.ports)++A[i].ports)++Y:=⟨(A.drop (i + 1)).flatMap (·.ports),by
    rw [hZ,← hfl,← List.flatMap_append,List.take_append_drop]⟩
   obtain ⟨Y,hsp⟩:=hsp
   refine Wq<|qW 30 31 rfl<|qK rfl<|Nl<|Wq<|Wt rfl ‹_›<|Wu<|Wq<|Wb<|Wq<|qW 35 39 rfl<|qJ rfl rfl ty84 ty184 (by omega)<|Od rfl rfl (Lg rfl rfl ty184 rfl (mems_tk hc2))<|qB rfl ty184<|qS rfl ty184 (Sl rfl) rfl<|Nl<|Wq<|qW 43 47 rfl<|qF rfl ty184 rfl<|qL rfl ty180 rfl<|qH rfl ty180<|qM rfl<|Nl ?_
   generalize A[i].ports=ps at *
   generalize (A.take i).flatMap (·.ports)=X at *
   rw [show X=X++ps.take 0 from by simp]
   refine Wb<|W.rename [(0,0),(1,1)] 2 (by decide) ?_ ?_ (W.loop_ind (α:=Nat) (fun x=>ps.length - x) 2 (fun x=>up (up (up (up (up (up (up (up (up mt 1 (some (.own 0 0))) 3 (some (.osl 1 0 (R++selP (X++ps.take x) n).length 10))) 4 (some (.base (.int .i64 (n:Int))))) 14 (some (.isl (memsC A) A.length))) 15 (some (.base (.int .i64 (A.length:Int))))) 16 (some (.base (.int .i64 (i:Int))))) 21 (some (.isl (prtsC ps) ps.length))) 22 (some (.base (.int .i64 (ps.length:Int))))) 23 (some (.base (.int .i64 (x:Int))))) (fun x=>up (up mt 0 (some (dbC d))) 1 (some (prtsC (R++selP (X++ps.take x) n)))) (fun x=>x≤ps.length) 0 (show 0≤ps.length from Nat.zero_le _) ?_)
   ·exact aR (aR (aR (aR (aR (aR (aR (aI (aI aM))))))))
   ·exact aU (kP rfl (prtsC_pure _)) (aU (kR rfl) aM)
   rintro j hIC ihC
   try (dsimp only at hIC)
   try dsimp only
   by_cases hc3:j < ps.length
   ·have g3:decide ((j:Int) < (ps.length:Int))=true:=decide_eq_true (by omega)
    have hQ:X++ps.take (j + 1)=(X++ps.take j)++[ps[j]]:=by rw [List.take_add_one,← List.append_assoc];simp [hc3]
    have hlen:(R++selP (X++ps.take (j + 1)) n).length≤1000:=hpre _ (selP (ps.drop (j + 1)++Y) n) (by
     rw [← selP_app,hsp]
     congr 1
     conv=>lhs;rw [← List.take_append_drop (j + 1) ps]
     simp only [List.append_assoc])
    have hpo:=hps _ (List.getElem_mem hc3)
    have hcp:=copyPort_any ps[j] (fun m h=>hpo.macs m h) (by have:=hpo.nm;omega)
    rw [hQ] at hlen
    refine Wq<|qW 51 52 rfl<|qK rfl<|Nl<|Wq<|Wt rfl ‹_›<|Wu<|Wq<|Wb<|Wq<|qW 56 60 rfl<|qJ rfl rfl ty180 ty250 (by omega)<|Od rfl rfl (Lg rfl rfl ty250 rfl (prts_tk hc3))<|qB rfl ty250<|qS rfl ty250 (Sl rfl) rfl<|Nl ?_
    generalize ps[j]=p at *
    generalize X++ps.take j=Q at *
    cases he:(p.id == (n:Int))
    ·have e:R++selP Q n=R++selP (X++ps.take (j + 1)) n:=by
      rw [hQ,selP_app,show selP [p] n=[] from by simp [selP,he],List.append_nil]
     refine Wq<|qW 64 68 rfl<|qF rfl ty250 rfl<|qL rfl ty3 rfl<|qM rfl<|qE rfl<|Nl<|Wo rfl ‹_›<|Wu<|qW 82 84 rfl<|qZ rfl (iW _ (by omega))<|qM rfl<|Nl ?_
     rw [e]
     refine WL.rename [(0,0),(1,1)] 2 (by decide) ?_ ?_ (ihC (j + 1) (show ps.length - (j + 1) < ps.length - j from by omega) (show (j + 1)≤ps.length from by omega))
     ·exact aR (aR (aR (aR (aR (aR (aR (aI (aI aM))))))))
     ·exact aU (kP rfl (prtsC_pure _)) (aU (kR rfl) aM)
    ·have e:(R++selP Q n)++[p]=R++selP (X++ps.take (j + 1)) n:=by
      rw [hQ,selP_app,show selP [p] n=[p] from by simp [selP,he],List.append_assoc]
     rw [selP_app,show selP [p] n=[p] from by simp [selP,he],← List.append_assoc,List.length_append,List.length_singleton] at hlen
     generalize R++selP Q n=B at *
     refine Wq<|qW 64 68 rfl<|qF rfl ty250 rfl<|qL rfl ty3 rfl<|qM rfl<|qE rfl<|Nl<|Wt rfl ‹_›<|qW 72 78 rfl<|qM rfl<|qG rfl ty250 rfl (Tl rfl)<|qY rfl (hcp) fok170 rfl<|Od rfl rfl (LO.buildSlice rfl ty180 ty250 (by decide) (by decide) (.cons rfl rfl rfl rfl (Sl rfl) .nil))<|Od rfl rfl (Lap rfl rfl (Sso rfl rfl (Tl rfl)) rfl (prts_all rfl) ty180 ty180 ty250 (by decide) (by omega) (by omega) (by decide))<|qA rfl<|Nl ?_
     rw [show prtsC B++[.base (.int .i64 p.id),.base (.int .i64 p.sw),.base (.int .i64 p.speed),.isl (macsC p.macs) p.macs.length,.base (.bool p.v4.v6),.base (.int .u64 p.v4.hi),.base (.int .u64 p.v4.lo),.base (.bool p.v6.v6),.base (.int .u64 p.v6.hi),.base (.int .u64 p.v6.lo)]=prtsC (B++[p]) from by simp [prtsC,prtC,adC],show B.length + 1=(B++[p]).length from by simp,e]
     refine qW 82 84 rfl<|qZ rfl (iW _ (by omega))<|qM rfl<|Nl<|WL.rename [(0,0),(1,76)] 2 (by decide) ?_ ?_ (ihC (j + 1) (show ps.length - (j + 1) < ps.length - j from by omega) (show (j + 1)≤ps.length from by omega))
     ·exact aR (aR (aR (aR (aR (aR (aR (aI (aI aM))))))))
     ·exact aU (kP rfl (prtsC_pure _)) (aU (kR rfl) aM)
   ·have g3:decide ((j:Int) < (ps.length:Int))=false:=decide_eq_false (by omega)
    refine Wq<|qW 51 52 rfl<|qK rfl<|Nl<|Wq<|Wo rfl ‹_›<|Wx ?_
    clear ihC
    obtain rfl:j=ps.length:=by omega
    rw [List.take_length,← hfl]
    refine qW 88 90 rfl<|qZ rfl (iW _ (by omega))<|qM rfl<|Nl<|WL.rename [(0,0),(1,1)] 2 (by decide) ?_ ?_ (ihB (i + 1) (show A.length - (i + 1) < A.length - i from by omega) (show (i + 1)≤A.length from by omega))
    ·exact aR (aR (aR (aR (aI (aI aM)))))
    ·exact aU (kP rfl (prtsC_pure _)) (aU (kR rfl) aM)
  ·have g2:decide ((i:Int) < (A.length:Int))=false:=decide_eq_false (by omega)
   refine Wq<|qW 30 31 rfl<|qK rfl<|Nl<|Wq<|Wo rfl ‹_›<|Wx ?_
   clear ihB
   obtain rfl:i=A.length:=by omega
   rw [List.take_length,← hZ,hnext]
   refine qW 94 97 rfl<|qM rfl<|qZ rfl (iW _ (by omega))<|qA rfl<|Nl<|WL.rename [(0,0),(1,1)] 2 (by decide) ?_ ?_ (ihA (n + 1) (show 1000 - (n + 1) < 1000 - n from by omega) (show (n + 1)≤1000 from by omega))
   ·exact aR (aI (aI aM))
   ·exact aU (kP rfl (prtsC_pure _)) (aU (kR rfl) aM)
 ·have g1:decide ((n:Int)≤999)=false:=decide_eq_false (by omega)
  refine Wq<|Wq<|qW 16 18 rfl<|qM rfl<|qLe rfl<|Nl<|Wo rfl ‹_›<|Wx ?_
  clear ihA
  obtain rfl:n=1000:=by omega
  refine Wq<|qW 101 103 rfl<|qM rfl<|qA rfl<|Nl<|Wy (t:=2) rfl rfl (prts_all rfl) (prtsC_pure _)<|Wz ⟨.inl rfl,_,mt,Rc (Rt0 rfl) (Rv),aM,?_⟩
  exact ⟨rfl,rfl⟩
open Go.RowKit Go.Shelf
def Tryz.lays219_ren:Go.Shelf.Ren:=⟨fun|219=>356|217=>385|225=>386|224=>387|267=>388|266=>403|314=>404|n=>n,fun|9=>9|3=>3|4=>4|5=>5|46=>151|146=>469|51=>295|n=>n,fun|1=>3|n=>n⟩
theorem Tryz.lays219:Go.Proofs.Lays.n219 Tryz.prog Tryz.lays219_ren:={
 mixed:=by kernel_rfl
 f217:=Tryz.func385.trans (congrArg some (by kernel_rfl))
 f219:=Tryz.func356.trans (congrArg some (by kernel_rfl))
 f224:=Tryz.func387.trans (congrArg some (by kernel_rfl))
 f225:=Tryz.func386.trans (congrArg some (by kernel_rfl))
 f266:=Tryz.func403.trans (congrArg some (by kernel_rfl))
 f267:=Tryz.func388.trans (congrArg some (by kernel_rfl))
 f314:=Tryz.func404.trans (congrArg some (by kernel_rfl))
 t3:=Tryz.underlying3
 a3:=Tryz.isAgg3
 z3:=Tryz.sizeOf3
 v3:=Tryz.zeroValue3
 t4:=Tryz.underlying4
 a4:=Tryz.isAgg4
 z4:=Tryz.sizeOf4
 v4:=Tryz.zeroValue4
 t5:=Tryz.underlying5
 a5:=Tryz.isAgg5
 z5:=Tryz.sizeOf5
 v5:=Tryz.zeroValue5
 t9:=Tryz.underlying9
 a9:=Tryz.isAgg9
 z9:=Tryz.sizeOf9
 v9:=Tryz.zeroValue9
 t46:=Tryz.underlying151
 a46:=Tryz.isAgg151
 z46:=Tryz.sizeOf151
 v46:=Tryz.zeroValue151
 t51:=Tryz.underlying295
 a51:=Tryz.isAgg295
 z51:=Tryz.sizeOf295
 v51:=Tryz.zeroValue295
 t146:=Tryz.underlying469
 a146:=Tryz.isAgg469
 z146:=Tryz.sizeOf469
 v146:=Tryz.zeroValue469
 g1:=by kernel_rfl }
def isPre:List UInt8→List UInt8→Bool
 | [],_=>true
 | _::_,[]=>false
 | a::s,b::l=>match Nat.beq a.toNat b.toNat with
  | true=>isPre s l
  | false=>false
theorem isPre_eq:∀ s l:List UInt8,s.isPrefixOf l=isPre s l:=by
 intro s
 induction s with
 | nil=>intro l;simp [isPre]
 | cons a s ih =>
  intro l
  cases l with
  | nil=>rfl
  | cons b l =>
   unfold isPre
   cases h:Nat.beq a.toNat b.toNat with
   | true =>
    have:=UInt8.toNat_inj.1 (Nat.eq_of_beq_eq_true h)
    subst this
    simp [ih]
   | false =>
    have hne:a≠b:=fun e=>Nat.ne_of_beq_eq_false h (by rw [e])
    rw [List.isPrefixOf]
    have:(a == b)=false:=by simpa using hne
    simp [this]
def idxS (sub:List UInt8):List UInt8→Option Nat
 | []=>match sub with
  | []=>some 0
  | _::_=>none
 | b::l=>match isPre sub (b::l) with
  | true=>some 0
  | false=>match idxS sub l with
   | some i=>some (i + 1)
   | none=>none
def idxSI (s sub:List UInt8):Int:=match idxS sub s with
 | some i=>(i:Int)
 | none=>-1
theorem idxSI_eq (sub:List UInt8):∀ s,Lib.index s sub=idxSI s sub:=by
 intro s
 induction s with
 | nil =>
  cases sub with
  | nil=>rfl
  | cons a l=>rfl
 | cons b l ih =>
  unfold Lib.index idxSI idxS
  rw [isPre_eq]
  cases isPre sub (b::l) with
  | true=>rfl
  | false =>
   rw [ih]
   unfold idxSI
   cases idxS sub l with
   | none=>rfl
   | some i =>
    have:((i:Int) == -1)=false:=by simp
    simp [this]
theorem index_any2 (s sub:ByteArray) (hs:s.size < 4294967281):AFn Tryz.prog 356 0 [.base (.string s),.base (.string sub)] mt (.base (.int .i64 (idxSI s.data.toList sub.data.toList))) mt:=by
 intro X φ w vals hl hR hst hφ
 obtain ⟨hg1,hg2,m,hm⟩:=hst.gl.2 3 rfl
 have e0:vals=#[.string s,.string sub]:=by
  have h2:vals.size=2:=hl
  apply Array.ext (by simpa using h2)
  intro i h1 h3
  match i with
  | 0=>exact (hR 0 vals[0] _ (by simp) rfl).base_eq
  | 1=>exact (hR 1 vals[1] _ (by simp) rfl).base_eq
  | i + 2=>simp at h3;omega
 subst e0
 refine (Any.stringslite_Index Tryz.lays219 s sub m w hs hm).mono fun e w' ⟨he,hw⟩=>?_
 subst hw
 rw [idxSI_eq] at he
 exact ⟨_,X,φ,he,Nxt.refl _ _ _ _ _,hst,.base _⟩
def knT:Rec:=fun g k args L=>match Nat.beq g 356 && Nat.beq k 0,L,args with
 | true,[],[.base (.string ⟨⟨s⟩⟩),.base (.string ⟨⟨t⟩⟩)]=>match Nat.blt s.length 4294967281 with
  | true=>some (.base (.int .i64 (idxSI s t)),[])
  | false=>none
 | _,_,_=>none
theorem knT_ok:RecOK Tryz.prog knT:=by
 intro g k args L v L' h
 unfold knT at h
 split at h<;>first|(cases h;done)|skip
 rename_i s t hg
 rw [Bool.and_eq_true] at hg
 have e1:=Nat.eq_of_beq_eq_true hg.1
 have e2:=Nat.eq_of_beq_eq_true hg.2
 subst e1 e2
 split at h<;>first|(cases h;done)|skip
 rename_i hl
 simp only [Option.some.injEq,Prod.mk.injEq] at h
 obtain ⟨rfl,rfl⟩:=h
 exact ⟨⟨Tryz.f356,Tryz.func356,by kernel_rfl,by kernel_rfl⟩,index_any2 ⟨⟨s⟩⟩ ⟨⟨t⟩⟩ (by rw [Nat.blt_eq] at hl;exact hl)⟩
noncomputable def envA:Env Tryz.prog:=envK knT knT_ok
end Go.Proofs.YtbfnfgpjgdbmeaaGreatDoor
