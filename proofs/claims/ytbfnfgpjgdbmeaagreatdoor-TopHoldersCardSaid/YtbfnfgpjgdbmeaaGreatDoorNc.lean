/-
  Ranges and spans put in order and joined by the document's functions; resources of prefixes and spans.
-/
import Derived.Test.YtbfnfgpjgdbmeaaGreatDoorNb
import Derived.Test.YtbfnfgpjgdbmeaaGreatDoorMab
namespace Go.Proofs.YtbfnfgpjgdbmeaaGreatDoor
open Go.RowKit
theorem greater_pl (x y:Int) (h1:0≤x∧x < topK) (h2:0≤y∧y < topK):AFn Tryz.prog 73 0 [.agg (adC (adOf x)),.agg (adC (adOf y))] mt (.agg (adC (adOf (max x y)))) mt:=by
 refine AFn.eq Tryz.func73 rfl rfl (Nat.le_of_ble_eq_true rfl) ?_
 have hc:=rcmp_pl x y h1 h2
 by_cases h:x < y
 ·have g1:decide (cmpI x y < 0)=true:=by rw [cmpI_lt h];rfl
  rw [Int.max_eq_right (by omega)]
  refine Wq<|qW 0 3 rfl<|qC rfl<|qC rfl<|qB rfl ty36<|Nl<|Wq<|Wq<|qW 7 11 rfl<|qG rfl ty36 rfl (Tl rfl)<|qG rfl ty36 rfl (Tl rfl)<|qY rfl (hc) fok29 rfl<|qK rfl<|Nl<|Wt rfl ‹_›<|Wq<|qW 15 17 rfl<|qG rfl ty36 rfl (Tl rfl)<|qS rfl ty36 (Sl rfl) rfl<|Nl<|Wz ⟨.inl rfl,_,mt,(Rc (Ra0 rfl rfl ty36 rfl (Tl rfl)) Rv),aM,?_⟩
  exact ⟨rfl,rfl⟩
 ·have g1:decide (cmpI x y < 0)=false:=by unfold cmpI;rw [if_neg h];split<;>rfl
  rw [Int.max_eq_left (by omega)]
  refine Wq<|qW 0 3 rfl<|qC rfl<|qC rfl<|qB rfl ty36<|Nl<|Wq<|Wq<|qW 7 11 rfl<|qG rfl ty36 rfl (Tl rfl)<|qG rfl ty36 rfl (Tl rfl)<|qY rfl (hc) fok29 rfl<|qK rfl<|Nl<|Wo rfl ‹_›<|Wu<|Wq<|qW 21 23 rfl<|qG rfl ty36 rfl (Tl rfl)<|qS rfl ty36 (Sl rfl) rfl<|Nl<|Wz ⟨.inl rfl,_,mt,(Rc (Ra0 rfl rfl ty36 rfl (Tl rfl)) Rv),aM,?_⟩
  exact ⟨rfl,rfl⟩
theorem lesser_pl (x y:Int) (h1:0≤x∧x < topK) (h2:0≤y∧y < topK):AFn Tryz.prog 74 0 [.agg (adC (adOf x)),.agg (adC (adOf y))] mt (.agg (adC (adOf (min x y)))) mt:=by
 refine AFn.eq Tryz.func74 rfl rfl (Nat.le_of_ble_eq_true rfl) ?_
 have hc:=rcmp_pl x y h1 h2
 by_cases h:x < y
 ·have g1:decide (cmpI x y < 0)=true:=by rw [cmpI_lt h];rfl
  rw [Int.min_eq_left (by omega)]
  refine Wq<|qW 0 3 rfl<|qC rfl<|qC rfl<|qB rfl ty36<|Nl<|Wq<|Wq<|qW 7 11 rfl<|qG rfl ty36 rfl (Tl rfl)<|qG rfl ty36 rfl (Tl rfl)<|qY rfl (hc) fok29 rfl<|qK rfl<|Nl<|Wt rfl ‹_›<|Wq<|qW 15 17 rfl<|qG rfl ty36 rfl (Tl rfl)<|qS rfl ty36 (Sl rfl) rfl<|Nl<|Wz ⟨.inl rfl,_,mt,(Rc (Ra0 rfl rfl ty36 rfl (Tl rfl)) Rv),aM,?_⟩
  exact ⟨rfl,rfl⟩
 ·have g1:decide (cmpI x y < 0)=false:=by unfold cmpI;rw [if_neg h];split<;>rfl
  rw [Int.min_eq_right (by omega)]
  refine Wq<|qW 0 3 rfl<|qC rfl<|qC rfl<|qB rfl ty36<|Nl<|Wq<|Wq<|qW 7 11 rfl<|qG rfl ty36 rfl (Tl rfl)<|qG rfl ty36 rfl (Tl rfl)<|qY rfl (hc) fok29 rfl<|qK rfl<|Nl<|Wo rfl ‹_›<|Wu<|Wq<|qW 21 23 rfl<|qG rfl ty36 rfl (Tl rfl)<|qS rfl ty36 (Sl rfl) rfl<|Nl<|Wz ⟨.inl rfl,_,mt,(Rc (Ra0 rfl rfl ty36 rfl (Tl rfl)) Rv),aM,?_⟩
  exact ⟨rfl,rfl⟩
theorem cmpI_le {x y:Int}:decide (cmpI x y≤0)=decide (x≤y):=by
 rcases Int.lt_trichotomy x y with h|h|h
 ·rw [cmpI_lt h,decide_eq_true (by omega:x≤y)];rfl
 ·rw [h,cmpI_self,decide_eq_true (Int.le_refl y)];rfl
 ·rw [cmpI_gt h,decide_eq_false (by omega:¬ x≤y)];rfl
theorem cmpI_lt0 {x y:Int}:decide (cmpI x y < 0)=decide (x < y):=by
 rcases Int.lt_trichotomy x y with h|h|h
 ·rw [cmpI_lt h,decide_eq_true h];rfl
 ·rw [h,cmpI_self,decide_eq_false (by omega:¬ y < y)];rfl
 ·rw [cmpI_gt h,decide_eq_false (by omega:¬ x < y)];rfl
theorem cmpI_gt0 {x y:Int}:decide (cmpI x y > 0)=decide (y < x):=by
 rcases Int.lt_trichotomy x y with h|h|h
 ·rw [cmpI_lt h,decide_eq_false (by omega:¬ y < x)];rfl
 ·rw [h,cmpI_self,decide_eq_false (by omega:¬ y < y)];rfl
 ·rw [cmpI_gt h,decide_eq_true h];rfl
theorem cmpI_ge0 {x y:Int}:decide (cmpI x y ≥ 0)=decide (y≤x):=by
 rcases Int.lt_trichotomy x y with h|h|h
 ·rw [cmpI_lt h,decide_eq_false (by omega:¬ y≤x)];rfl
 ·rw [h,cmpI_self,decide_eq_true (Int.le_refl y)];rfl
 ·rw [cmpI_gt h,decide_eq_true (by omega:y≤x)];rfl
def JnI (o:List (Int × Int)) (s:List (Int × Int)) (r:List (Int × Int)):Prop:=(o=[]∧(match s with
 | []=>[]
 | x::s=>mgR x s)=r)∨∃ p y,o=p++[y]∧p++mgR y s=r
theorem JnI.start (l:List (Int × Int)):JnI [] (srtR [] l) (rngR l):=.inl ⟨rfl,rfl⟩
theorem JnI.done {o r:List (Int × Int)} (h:JnI o [] r):o=r:=by
 rcases h with ⟨h1,h2⟩|⟨p,y,h1,h2⟩
 ·rw [h1];exact h2
 ·rw [h1];exact h2
theorem JnI.first {x:Int × Int} {s r:List (Int × Int)} (h:JnI [] (x::s) r):JnI ([]++[x]) s r:=by
 rcases h with ⟨h1,h2⟩|⟨p,y,h1,h2⟩
 ·exact .inr ⟨[],x,rfl,h2⟩
 ·simp at h1
theorem JnI.split {p s r:List (Int × Int)} {x y:Int × Int} (h:JnI (p++[y]) (x::s) r):p++mgR y (x::s)=r:=by
 rcases h with ⟨h1,h2⟩|⟨p',y',h1,h2⟩
 ·simp at h1
 ·obtain ⟨rfl,h3⟩:=List.append_inj' h1 rfl
  injection h3 with h3
  rw [h3];exact h2
theorem JnI.join {p s r:List (Int × Int)} {x y:Int × Int} (h:JnI (p++[y]) (x::s) r) (hj:joinsR y x=true) {z:Int} (hz:z=max y.2 x.2):JnI (p++[(y.1,z)]) s r:=by
 have h2:=h.split
 unfold mgR at h2
 rw [if_pos hj] at h2
 rw [hz]
 exact .inr ⟨p,_,rfl,h2⟩
theorem JnI.next {p s r:List (Int × Int)} {x y:Int × Int} (h:JnI (p++[y]) (x::s) r) (hj:joinsR y x=false):JnI (p++[y]++[x]) s r:=by
 have h2:=h.split
 unfold mgR at h2
 rw [if_neg (by rw [hj];simp)] at h2
 exact .inr ⟨p++[y],x,rfl,by rw [← h2];simp⟩
theorem snoc_of {α:Type} {o:List α} (h:0 < o.length):∃ p y,o=p++[y]:=by
 have hne:o≠[]:=List.length_pos_iff.1 h
 exact ⟨o.dropLast,o.getLast hne,(List.dropLast_concat_getLast hne).symm⟩
set_option maxHeartbeats 4000000 in
theorem ranges_any (l:List (Int × Int)) (hl:∀ u∈l,InF u) (hn:l.length≤100000):AFn Tryz.prog 76 0 [.isl (rngsC l) l.length] mt (.isl (rngsC (rngR l)) (rngR l).length) mt:=by
 refine AFn.eq Tryz.func76 rfl rfl (Nat.le_of_ble_eq_true rfl)<|Wq<|qW 0 1 rfl<|qA rfl<|Nl<|Wq<|qW 5 6 rfl<|qA rfl<|Nl<|W.nilt (t:=3) rfl<|Wq<|Wq<|qW 10 13 rfl<|qM rfl<|qH rfl ty43<|qM rfl<|Nl<|Wb<|W.rename [] 0 (by decide) ?_ ?_ (W.loop_ind (α:=Nat × List (Int × Int)) (fun x=>l.length - x.1) 0 (fun x=>up (up (up (up mt 3 (some (.isl (rngsC x.2) x.2.length))) 14 (some (.isl (rngsC l) l.length))) 15 (some (.base (.int .i64 (l.length:Int))))) 16 (some (.base (.int .i64 (x.1:Int))))) (fun x=>mt) (fun x=>x.1≤l.length∧x.2.length=x.1∧srtR x.2 (l.drop x.1)=srtR [] l∧∀ z∈x.2,InF z) (0,(([]:List (Int × Int)))) (show 0≤l.length∧(([]:List (Int × Int))).length=0∧srtR (([]:List (Int × Int))) (l.drop 0)=srtR [] l∧∀ z∈(([]:List (Int × Int))),InF z from ⟨Nat.zero_le _,rfl,rfl,fun u h=>absurd h List.not_mem_nil⟩) ?_)
 ·exact aR (aR (aR (aR aM)))
 ·exact aM
 rintro ⟨k,s⟩ hIA ihA
 try (dsimp only at hIA)
 try dsimp only
 obtain ⟨hk,hsl,hst,hsi⟩:=hIA
 by_cases hc:k < l.length
 ·have g1:decide ((k:Int) < (l.length:Int))=true:=decide_eq_true (by omega)
  have hkk:(k:Int) + 1=((k + 1:Nat):Int):=by omega
  have hxi:=hl l[k] (List.getElem_mem hc)
  have hxt:=rng_tk' hc
  have hstep:=fun s'=>srtR_step (s:=s) hc s'
  obtain ⟨u,hx⟩:∃ u,l[k]=u:=⟨_,rfl⟩
  rw [hx] at hxi hxt hstep
  refine Wq<|qW 17 18 rfl<|qK rfl<|Nl<|Wq<|Wt rfl ‹_›<|Wu<|Wq<|Wb<|Wq<|qW 22 26 rfl<|qJ rfl rfl ty43 ty80 (by omega)<|Od rfl rfl (Lg rfl rfl ty80 rfl hxt)<|qB rfl ty80<|qS rfl ty80 (Sl rfl) rfl<|Nl<|Wq<|qW 30 31 rfl<|qA rfl<|Nl<|Wq<|Wb<|W.rename [(0,24)] 1 (by decide) ?_ ?_ (W.loop_ind (α:=Nat) (fun x=>s.length - x) 1 (fun x=>up (up (up (up (up (up mt 3 (some (.isl (rngsC s) s.length))) 5 (some (.own 0 0))) 6 (some (.base (.int .i64 (x:Int))))) 14 (some (.isl (rngsC l) l.length))) 15 (some (.base (.int .i64 (l.length:Int))))) 16 (some (.base (.int .i64 (k:Int))))) (fun x=>up mt 0 (some (rngC u))) (fun x=>x≤s.length∧∀ (i:Nat) z,i < x→s[i]?=some z→z.1≤u.1) 0 (show 0≤s.length∧∀ (i:Nat) z,i < 0→s[i]?=some z→z.1≤u.1 from ⟨Nat.zero_le _,fun i y h=>absurd h (Nat.not_lt_zero _)⟩) ?_)
  ·exact aR (aR (aR (aR (aI (aR aM)))))
  ·exact aU (kR rfl) aM
  rintro j hIB ihB
  try (dsimp only at hIB)
  try dsimp only
  obtain ⟨hj,hlo⟩:=hIB
  have hcase:(j < s.length∧∃ y,s[j]?=some y∧y.1≤u.1)∨(j < s.length∧(∃ y,s[j]?=some y)∧∀ y,s[j]?=some y→¬ y.1≤u.1)∨j=s.length:=by
   by_cases h1:j < s.length
   ·have h2:s[j]?=some s[j]:=List.getElem?_eq_getElem h1
    by_cases h3:s[j].1≤u.1
    ·exact .inl ⟨h1,_,h2,h3⟩
    ·exact .inr (.inl ⟨h1,⟨_,h2⟩,fun y hy=>by rw [h2] at hy;injection hy with hy;rw [← hy];exact h3⟩)
   ·exact .inr (.inr (by omega))
  rcases hcase with ⟨hjl,y,hy,hyx⟩|hexit
  ·have hyj:s[j]=y:=by rw [List.getElem?_eq_getElem hjl] at hy;injection hy
   have hyi:=hsi y (hyj ▸ List.getElem_mem hjl)
   have hft:Tk (rngsC s) (j * 6 + 0) 3 (adC (adOf y.1)):=by rw [← hyj];exact rng_frT hjl (by omega)
   have hcm:=rcmp_pl y.1 u.1 hyi.b1 hxi.b1
   have g2:decide ((j:Int) < (s.length:Int))=true:=decide_eq_true (by omega)
   have g3:decide (cmpI y.1 u.1≤0)=true:=by rw [cmpI_le];exact decide_eq_true hyx
   have hjj:(j:Int) + 1=((j + 1:Nat):Int):=by omega
   refine Wq<|Wq<|Wd 35 50 (by decide) rfl mixed rfl<|qM rfl<|qM rfl<|qH rfl ty43<|qK rfl<|qM rfl<|gM rfl ‹_›<|gM rfl ‹_›<|qU rfl ‹_› rfl (Ii rfl rfl rfl rfl rfl ty43 ty80 (by omega))<|qU rfl ‹_› rfl (Fi rfl rfl ty80 rfl (by decide))<|qU rfl ‹_› rfl (Lg rfl rfl ty36 rfl hft)<|gF rfl ‹_› ty80 rfl<|gG rfl ‹_› ty36 rfl (Tl rfl)<|gY rfl ‹_› (hcm) fok29 rfl<|gLe rfl ‹_›<|qT rfl ‹_› rfl<|Nl ⟨by kernel_rfl,(Wt rfl ‹_›<|Wu<|Wb<|qW 54 57 rfl<|qM rfl<|qZ rfl (iW _ (by omega))<|qA rfl<|Nl ?_)⟩
   rw [hjj]
   refine WL.rename [(0,0)] 1 (by decide) ?_ ?_ (ihB (j + 1) (show s.length - (j + 1) < s.length - j from by omega) (show (j + 1)≤s.length∧∀ (i:Nat) z,i < (j + 1)→s[i]?=some z→z.1≤u.1 from ⟨by omega,fun i z hi hz=>by rcases (show i < j∨i=j by omega) with h|h;exact hlo i z h hz;subst h;rw [hy] at hz;injection hz with hz;rw [← hz];exact hyx⟩))
   ·exact aR (aR (aR (aR (aI (aR aM)))))
   ·exact aU (kR rfl) aM
  ·have hnl:∀ y,s[j]?=some y→¬ y.1≤u.1:=by
    rcases hexit with ⟨_,_,h⟩|h
    ·exact h
    ·intro y hy;rw [h,List.getElem?_eq_none (Nat.le_refl _)] at hy;cases hy
   have hins:=insR_at j hj hlo hnl
   have hT1:=rngs_pre hj
   have hT2:=rngs_suf hj
   have hz1:(rngsC (s.take j)).length=(j - 0) * 6:=by rw [rngsC_len,List.length_take,Nat.min_eq_left hj,Nat.sub_zero]
   have hz2:(rngsC (s.drop j)).length=(s.length - j) * 6:=by rw [rngsC_len,List.length_drop]
   have hT3:Tk (rngsC (s.take j)) 0 ((j - 0) * 6) (rngsC (s.take j)):=tk_all hz1
   have hT4:Tk (rngsC (s.take j)++[.base (.bool (adOf u.1).v6),.base (.int .u64 (adOf u.1).hi),.base (.int .u64 (adOf u.1).lo),.base (.bool (adOf u.2).v6),.base (.int .u64 (adOf u.2).hi),.base (.int .u64 (adOf u.2).lo)]) 0 ((j - 0 + 1) * 6) (rngsC (s.take j)++[.base (.bool (adOf u.1).v6),.base (.int .u64 (adOf u.1).hi),.base (.int .u64 (adOf u.1).lo),.base (.bool (adOf u.2).v6),.base (.int .u64 (adOf u.2).hi),.base (.int .u64 (adOf u.2).lo)]):=tk_all (by rw [List.length_append,hz1];simp;omega)
   have hcs:rngsC (s.take j)++[.base (.bool (adOf u.1).v6),.base (.int .u64 (adOf u.1).hi),.base (.int .u64 (adOf u.1).lo),.base (.bool (adOf u.2).v6),.base (.int .u64 (adOf u.2).hi),.base (.int .u64 (adOf u.2).lo)]++rngsC (s.drop j)=rngsC (insR u s):=by
    rw [rng_snocL,← rngsC_app,hins];simp
   have hcn:j - 0 + 1 + (s.length - j)=(insR u s).length:=by rw [insR_len];omega
   have hil:(insR u s).length=k + 1:=by rw [insR_len,hsl]
   have hii:∀ z∈insR u s,InF z:=fun z hz=>by
    rcases insR_mem.1 hz with h|h
    ·rw [h];exact hxi
    ·exact hsi z h
   have hst2:=(hstep (insR u s) rfl).symm.trans hst
   have hs5:s.length≤100000:=by omega
   clear ihB
   rcases hexit with ⟨hjl,⟨y,hy⟩,_⟩|hje
   case' inl =>
    have hyj:s[j]=y:=by rw [List.getElem?_eq_getElem hjl] at hy;injection hy
    have hyi:=hsi y (hyj ▸ List.getElem_mem hjl)
    have hft:Tk (rngsC s) (j * 6 + 0) 3 (adC (adOf y.1)):=by rw [← hyj];exact rng_frT hjl (by omega)
    have hcm:=rcmp_pl y.1 u.1 hyi.b1 hxi.b1
    have g2:decide ((j:Int) < (s.length:Int))=true:=decide_eq_true (by omega)
    have g3:decide (cmpI y.1 u.1≤0)=false:=by rw [cmpI_le];exact decide_eq_false (hnl y hy)
    refine Wq<|Wq<|Wd 35 50 (by decide) rfl mixed rfl<|qM rfl<|qM rfl<|qH rfl ty43<|qK rfl<|qM rfl<|gM rfl ‹_›<|gM rfl ‹_›<|qU rfl ‹_› rfl (Ii rfl rfl rfl rfl rfl ty43 ty80 (by omega))<|qU rfl ‹_› rfl (Fi rfl rfl ty80 rfl (by decide))<|qU rfl ‹_› rfl (Lg rfl rfl ty36 rfl hft)<|gF rfl ‹_› ty80 rfl<|gG rfl ‹_› ty36 rfl (Tl rfl)<|gY rfl ‹_› (hcm) fok29 rfl<|gLe rfl ‹_›<|qT rfl ‹_› rfl<|Nl ⟨by kernel_rfl,(Wo rfl ‹_›<|Wx ?_)⟩
   case' inr =>
    have g2:decide ((j:Int) < (s.length:Int))=false:=decide_eq_false (by omega)
    refine Wq<|Wq<|Wd 35 50 (by decide) rfl mixed rfl<|qM rfl<|qM rfl<|qH rfl ty43<|qK rfl<|qM rfl<|qD rfl ‹_› rfl<|qD rfl ‹_› rfl<|qD rfl ‹_› rfl<|qD rfl ‹_› rfl<|qD rfl ‹_› rfl<|qD rfl ‹_› rfl<|qD rfl ‹_› rfl<|qD rfl ‹_› rfl<|qD rfl ‹_› rfl<|qP rfl ‹_› rfl<|Nl ⟨by kernel_rfl,(Wo rfl rfl<|Wx ?_)⟩
   all_goals
    refine Wd 61 73 (by decide) rfl mixed rfl<|qM rfl<|qM rfl<|Od rfl rfl (Lsi rfl rfl rfl Bnd.no (Ba rfl rfl) (Nat.zero_le _) hj ty43 ty80 hT1)<|Od rfl rfl (Lan rfl rfl (Ssi rfl rfl hz1) ty43 ty43 ty80 (by decide) (by omega) (by omega) (by decide))<|qG rfl ty80 rfl (Tl rfl)<|Od rfl rfl (LO.buildSlice rfl ty43 ty80 (by decide) (by decide) (.cons rfl rfl rfl rfl (Sl rfl) .nil))<|Od rfl rfl (Lap rfl rfl (Sso rfl rfl (Tl rfl)) rfl hT3 ty43 ty43 ty80 (by decide) (by omega) (by omega) (by decide))<|qM rfl<|qM rfl<|Od rfl rfl (Lsi rfl rfl rfl (Ba rfl rfl) Bnd.no hj (Nat.le_refl _) ty43 ty80 hT2)<|Od rfl rfl (Lap rfl rfl (Ssi rfl rfl hz2) rfl hT4 ty43 ty43 ty80 (by decide) (by omega) (by omega) (by decide))<|qA rfl<|Nl ⟨by kernel_rfl,?_⟩
    rw [hcs,hcn]
    refine Wy (t:=3) rfl rfl (rngs_all rfl) (rngsC_pure _)<|qW 77 79 rfl<|qZ rfl (iW _ (by omega))<|qM rfl<|Nl ?_
    rw [hkk]
    refine WL.rename [] 0 (by decide) ?_ ?_ (ihA ((k + 1),(insR u s)) (show l.length - (k + 1) < l.length - k from by omega) (show (k + 1)≤l.length∧(insR u s).length=(k + 1)∧srtR (insR u s) (l.drop (k + 1))=srtR [] l∧∀ z∈(insR u s),InF z from ⟨by omega,hil,hst2,hii⟩))
    ·exact aR (aR (aR (aR aM)))
    ·exact aM
 ·have g1:decide ((k:Int) < (l.length:Int))=false:=decide_eq_false (by omega)
  rw [List.drop_of_length_le (by omega)] at hst
  obtain rfl:s=srtR [] l:=hst
  have hjn:=JnI.start l
  obtain ⟨s,hs⟩:∃ s,srtR [] l=s:=⟨_,rfl⟩
  rw [hs] at hsl hsi hjn ⊢
  obtain ⟨R,hR⟩:∃ R,rngR l=R:=⟨_,rfl⟩
  rw [hR] at hjn ⊢
  clear ihA hs hR
  refine Wq<|qW 17 18 rfl<|qK rfl<|Nl<|Wq<|Wo rfl ‹_›<|Wx<|Wq<|qW 83 84 rfl<|qA rfl<|Nl<|W.name 84 (84 + 1) (t:=7) (sz:=6) rfl (by decide) (by decide)<|Wq<|Wq<|qW 88 91 rfl<|qM rfl<|qH rfl ty43<|qM rfl<|Nl<|Wb<|W.rename [(0,84)] 1 (by decide) ?_ ?_ (W.loop_ind (α:=Nat × List (Int × Int)) (fun x=>s.length - x.1) 1 (fun x=>up (up (up (up mt 7 (some (.osl 0 0 x.2.length 6))) 49 (some (.isl (rngsC s) s.length))) 50 (some (.base (.int .i64 (s.length:Int))))) 51 (some (.base (.int .i64 (x.1:Int))))) (fun x=>up mt 0 (some (rngsC x.2))) (fun x=>x.1≤s.length∧x.2.length≤x.1∧(∀ z∈x.2,InF z)∧JnI x.2 (s.drop x.1) R) (0,(([]:List (Int × Int)))) (show 0≤s.length∧(([]:List (Int × Int))).length≤0∧(∀ z∈(([]:List (Int × Int))),InF z)∧JnI (([]:List (Int × Int))) (s.drop 0) R from ⟨Nat.zero_le _,Nat.le_refl _,fun u h=>absurd h List.not_mem_nil,hjn⟩) ?_)
  ·exact aR (aR (aR (aI aM)))
  ·exact aU (kR rfl) aM
  rintro ⟨k,o⟩ hIC ihC
  try (dsimp only at hIC)
  try dsimp only
  obtain ⟨hk,hol,hoi,hJ⟩:=hIC
  by_cases hc:k < s.length
  ·have g1:decide ((k:Int) < (s.length:Int))=true:=decide_eq_true (by omega)
   have hkk:(k:Int) + 1=((k + 1:Nat):Int):=by omega
   have hxi:=hsi s[k] (List.getElem_mem hc)
   have hxt:=rng_tk' hc
   rw [List.drop_eq_getElem_cons hc] at hJ
   obtain ⟨u,hx⟩:∃ u,s[k]=u:=⟨_,rfl⟩
   rw [hx] at hxi hxt hJ
   have hsz5:s.length≤100000:=by omega
   refine Wq<|qW 95 96 rfl<|qK rfl<|Nl<|Wq<|Wt rfl ‹_›<|Wu<|Wq<|Wb<|Wq<|qW 100 104 rfl<|qJ rfl rfl ty43 ty80 (by omega)<|Od rfl rfl (Lg rfl rfl ty80 rfl hxt)<|qB rfl ty80<|qS rfl ty80 (Sl rfl) rfl<|Nl<|Wq<|Wq<|qW 108 111 rfl<|qM rfl<|Od rfl rfl (LO.len rfl rfl ty43)<|qA rfl<|Nl ?_
   by_cases ho:0 < o.length
   ·have g2:decide ((o.length:Int) > 0)=true:=decide_eq_true (by omega)
    obtain ⟨p,y,rfl⟩:=snoc_of ho
    have hyi:=hoi y (by simp)
    have hne:((p++[y]).length:Int) - 1=(p.length:Int):=by simp
    have hnl:p.length < (p++[y]).length:=by simp
    have hnx:=rnext_pl y.2 hyi.b2
    have hcm:=fun z h=>rcmp_pl u.1 z hxi.b1 h
    have hvy:=plVA hyi.b2
    have hvx:=plVA hxi.b1
    have hAt:Tk (rngsC (p++[y])) (0 + p.length * 6 + 3) 3 (adC (adOf y.2)):=rng_atTo (by omega)
    have hAv:(rngsC (p++[y]))[0 + p.length * 6 + 3 + 0]?=some (.base (.bool (adOf y.2).v6)):=rng_atV (by omega)
    have hSt:Sp (rngsC (p++[y])) (0 + p.length * 6 + 3) (adC (adOf u.2)) (rngsC (p++[(y.1,u.2)])):=rng_store (by omega)
    have hcase:(joinsR y u=true∧((nxK y.2=none∧fmK y.2=fmK u.1)∨(∃ n,nxK y.2=some n∧fmK y.2=fmK u.1∧u.1≤n)))∨(joinsR y u=false∧(fmK y.2≠fmK u.1∨(∃ n,nxK y.2=some n∧fmK y.2=fmK u.1∧¬ u.1≤n))):=by
     unfold joinsR
     by_cases hf:fmK y.2=fmK u.1
     ·rw [decide_eq_true hf]
      cases hq:nxK y.2 with
      | none=>exact .inl ⟨rfl,.inl ⟨rfl,hf⟩⟩
      | some n =>
       by_cases h:u.1≤n
       ·exact .inl ⟨by simp [h],.inr ⟨n,rfl,hf,h⟩⟩
       ·exact .inr ⟨by simp [h],.inr ⟨n,rfl,hf,h⟩⟩
     ·rw [decide_eq_false hf]
      exact .inr ⟨rfl,.inl hf⟩
    refine Wq<|qW 115 117 rfl<|qM rfl<|qGt rfl<|Nl<|Wt rfl ‹_›<|Wq<|qW 121 126 rfl<|qM rfl<|qM rfl<|Od rfl rfl (LO.sub_in rfl rfl rfl (iW _ (by omega)))<|Od rfl rfl (Ia rfl rfl rfl hne ty43 ty80 (by omega))<|qA rfl<|Nl<|Wq<|qW 130 141 rfl<|qM rfl<|Od rfl rfl (Nc rfl rfl)<|qF rfl ty80 rfl<|qG rfl ty36 rfl hAt<|qY rfl (hnx) fok146 rfl<|qM rfl<|qX rfl<|qX rfl<|qB rfl ty36<|qS rfl ty36 (Sl rfl) rfl<|qA rfl<|Nl ?_
    rcases hcase with ⟨hj,hcase⟩|⟨hj,hcase⟩
    ·have hlt:=rcmp_pl y.2 u.2 hyi.b2 hxi.b2
     rcases hcase with ⟨hq,hf⟩|⟨n,hq,hf,hxn⟩
     case' inl =>
      have q1:((adOf y.2).v6 == (adOf u.1).v6)=true:=by rw [hvy,hvx,hf];simp
      rw [hq,show (none:Option Int).isSome=false from rfl]
      refine Wq<|Wd 145 165 (by decide) rfl mixed rfl<|qM rfl<|Od rfl rfl (Nc rfl rfl)<|qF rfl ty80 rfl<|qF rfl ty36 rfl<|Od rfl rfl (Ld rfl rfl rfl hAv ty4 rfl)<|qF rfl ty80 rfl<|qF rfl ty36 rfl<|qL rfl ty4 rfl<|Od rfl rfl (LO.eql_bool rfl rfl rfl ty4)<|qM rfl<|gM rfl ‹_›<|gO rfl ‹_›<|gM rfl ‹_›<|qD rfl rfl rfl<|qD rfl rfl rfl<|qD rfl rfl rfl<|qD rfl rfl rfl<|qD rfl rfl rfl<|qU rfl ‹_› rfl (Pt rfl rfl rfl rfl)<|qT rfl ‹_› rfl<|Nl ⟨by kernel_rfl,(Wt rfl rfl ?_)⟩
     case' inr =>
      have q1:((adOf y.2).v6 == (adOf u.1).v6)=true:=by rw [hvy,hvx,hf];simp
      have hn2:0≤n∧n < topK:=by have h0:=nbK.nx1 _ _ hq;have h1:=nbK.nxf _ _ hq;have:=hyi.b2;unfold nxK at hq;split at hq;cases hq;unfold topK at *;omega
      have hcm2:=hcm n hn2
      have q2:decide (cmpI u.1 n≤0)=true:=by rw [cmpI_le];exact decide_eq_true hxn
      rw [hq,show (some n).isSome=true from rfl,show (some n).getD 0=n from rfl]
      refine Wq<|Wd 145 165 (by decide) rfl mixed rfl<|qM rfl<|Od rfl rfl (Nc rfl rfl)<|qF rfl ty80 rfl<|qF rfl ty36 rfl<|Od rfl rfl (Ld rfl rfl rfl hAv ty4 rfl)<|qF rfl ty80 rfl<|qF rfl ty36 rfl<|qL rfl ty4 rfl<|Od rfl rfl (LO.eql_bool rfl rfl rfl ty4)<|qM rfl<|gM rfl ‹_›<|gO rfl ‹_›<|gM rfl ‹_›<|gF rfl rfl ty80 rfl<|gG rfl rfl ty36 rfl (Tl rfl)<|gG rfl rfl ty36 rfl (Tl rfl)<|gY rfl rfl (hcm2) fok29 rfl<|gLe rfl rfl<|qU rfl ‹_› rfl (Pf0 rfl rfl rfl rfl)<|qT rfl ‹_› rfl<|Nl ⟨by kernel_rfl,(Wt rfl ‹_› ?_)⟩
     all_goals
      repeat (refine Wq ?_)
      refine Wd 169 177 (by decide) rfl mixed rfl<|qM rfl<|Od rfl rfl (Nc rfl rfl)<|qF rfl ty80 rfl<|qG rfl ty36 rfl hAt<|qF rfl ty80 rfl<|qG rfl ty36 rfl (Tl rfl)<|qY rfl (hlt) fok29 rfl<|qK rfl<|Nl ⟨by kernel_rfl,?_⟩
      by_cases hmx:y.2 < u.2
      ·have q3:decide (cmpI y.2 u.2 < 0)=true:=by rw [cmpI_lt0];exact decide_eq_true hmx
       have hJ2:=hJ.join hj (z:=u.2) (by omega)
       have hoi2:∀ z∈p++[(y.1,u.2)],InF z:=fun z hz=>by
        rcases List.mem_append.1 hz with h|h
        ·exact hoi z (by simp [h])
        ·rw [List.mem_singleton] at h
         subst h
         refine ⟨⟨by have:=hyi.1.1;show y.1≤u.2;omega,?_⟩,hyi.2.1,hxi.2.2⟩
         show fmK y.1=fmK u.2
         rw [hyi.1.2,hf,hxi.1.2]
       refine Wt rfl ‹_›<|qW 181 187 rfl<|qM rfl<|qF rfl ty80 rfl<|qG rfl ty36 rfl (Tl rfl)<|Od rfl rfl (Nc rfl rfl)<|qF rfl ty80 rfl<|qS rfl ty36 hSt rfl<|Nl<|Wx<|qW 200 202 rfl<|qZ rfl (iW _ (by omega))<|qM rfl<|Nl ?_
       rw [hkk,show (p++[y]).length=(p++[(y.1,u.2)]).length from by simp]
       refine WL.rename [(0,0)] 1 (by decide) ?_ ?_ (ihC ((k + 1),(p++[(y.1,u.2)])) (show s.length - (k + 1) < s.length - k from by omega) (show (k + 1)≤s.length∧(p++[(y.1,u.2)]).length≤(k + 1)∧(∀ z∈(p++[(y.1,u.2)]),InF z)∧JnI (p++[(y.1,u.2)]) (s.drop (k + 1)) R from ⟨by omega,by simp at hol ⊢;omega,hoi2,hJ2⟩))
       ·exact aR (aR (aR (aI aM)))
       ·exact aU (kP rfl (rngsC_pure _)) aM
      ·have q3:decide (cmpI y.2 u.2 < 0)=false:=by rw [cmpI_lt0];exact decide_eq_false hmx
       have hJ2:=hJ.join hj (z:=y.2) (by omega)
       refine Wo rfl ‹_›<|Wu<|Wx<|qW 200 202 rfl<|qZ rfl (iW _ (by omega))<|qM rfl<|Nl ?_
       rw [hkk]
       refine WL.rename [(0,0)] 1 (by decide) ?_ ?_ (ihC ((k + 1),(p++[y])) (show s.length - (k + 1) < s.length - k from by omega) (show (k + 1)≤s.length∧(p++[y]).length≤(k + 1)∧(∀ z∈(p++[y]),InF z)∧JnI (p++[y]) (s.drop (k + 1)) R from ⟨by omega,by omega,hoi,hJ2⟩))
       ·exact aR (aR (aR (aI aM)))
       ·exact aU (kP rfl (rngsC_pure _)) aM
    ·have hJ2:=hJ.next hj
     have hoi2:∀ z∈p++[y]++[u],InF z:=fun z hz=>by
      rcases List.mem_append.1 hz with h|h
      ·exact hoi z h
      ·rw [List.mem_singleton] at h;rw [h];exact hxi
     rcases hcase with hf|⟨n,hq,hf,hxn⟩
     case' inl =>
      have q1:((adOf y.2).v6 == (adOf u.1).v6)=false:=by rw [hvy,hvx];simpa using hf
      refine Wq<|Wd 145 165 (by decide) rfl mixed rfl<|qM rfl<|Od rfl rfl (Nc rfl rfl)<|qF rfl ty80 rfl<|qF rfl ty36 rfl<|Od rfl rfl (Ld rfl rfl rfl hAv ty4 rfl)<|qF rfl ty80 rfl<|qF rfl ty36 rfl<|qL rfl ty4 rfl<|Od rfl rfl (LO.eql_bool rfl rfl rfl ty4)<|qM rfl<|qD rfl ‹_› rfl<|qD rfl ‹_› rfl<|qD rfl ‹_› rfl<|Ud rfl rfl rfl rfl<|Ud rfl rfl rfl rfl<|Ud rfl rfl rfl rfl<|Ud rfl rfl rfl rfl<|Ud rfl rfl rfl rfl<|qD rfl ‹_› rfl<|qP rfl ‹_› rfl<|Nl ⟨by kernel_rfl,(Wo rfl rfl<|Wu ?_)⟩
     case' inr =>
      have q1:((adOf y.2).v6 == (adOf u.1).v6)=true:=by rw [hvy,hvx,hf];simp
      have hn2:0≤n∧n < topK:=by have h0:=nbK.nx1 _ _ hq;have h1:=nbK.nxf _ _ hq;have:=hyi.b2;unfold nxK at hq;split at hq;cases hq;unfold topK at *;omega
      have hcm2:=hcm n hn2
      have q2:decide (cmpI u.1 n≤0)=false:=by rw [cmpI_le];exact decide_eq_false hxn
      rw [hq,show (some n).isSome=true from rfl,show (some n).getD 0=n from rfl]
      refine Wq<|Wd 145 165 (by decide) rfl mixed rfl<|qM rfl<|Od rfl rfl (Nc rfl rfl)<|qF rfl ty80 rfl<|qF rfl ty36 rfl<|Od rfl rfl (Ld rfl rfl rfl hAv ty4 rfl)<|qF rfl ty80 rfl<|qF rfl ty36 rfl<|qL rfl ty4 rfl<|Od rfl rfl (LO.eql_bool rfl rfl rfl ty4)<|qM rfl<|gM rfl ‹_›<|gO rfl ‹_›<|gM rfl ‹_›<|gF rfl rfl ty80 rfl<|gG rfl rfl ty36 rfl (Tl rfl)<|gG rfl rfl ty36 rfl (Tl rfl)<|gY rfl rfl (hcm2) fok29 rfl<|gLe rfl rfl<|qU rfl ‹_› rfl (Pf0 rfl rfl rfl rfl)<|qT rfl ‹_› rfl<|Nl ⟨by kernel_rfl,(Wo rfl ‹_›<|Wu ?_)⟩
     all_goals
      refine qW 191 196 rfl<|qM rfl<|qG rfl ty80 rfl (Tl rfl)<|Od rfl rfl (LO.buildSlice rfl ty43 ty80 (by decide) (by decide) (.cons rfl rfl rfl rfl (Sl rfl) .nil))<|Od rfl rfl (Lap rfl rfl (Sso rfl rfl (Tl rfl)) rfl (rngs_all rfl) ty43 ty43 ty80 (by decide) (by omega) (by omega) (by decide))<|qA rfl<|Nl ?_
      rw [rng_snocL,show (p++[y]).length + 1=(p++[y]++[u]).length from by simp]
      refine qW 200 202 rfl<|qZ rfl (iW _ (by omega))<|qM rfl<|Nl ?_
      rw [hkk]
      refine WL.rename [(0,194)] 1 (by decide) ?_ ?_ (ihC ((k + 1),(p++[y]++[u])) (show s.length - (k + 1) < s.length - k from by omega) (show (k + 1)≤s.length∧(p++[y]++[u]).length≤(k + 1)∧(∀ z∈(p++[y]++[u]),InF z)∧JnI (p++[y]++[u]) (s.drop (k + 1)) R from ⟨by omega,by simp at hol ⊢;omega,hoi2,hJ2⟩))
      ·exact aR (aR (aR (aI aM)))
      ·exact aU (kP rfl (rngsC_pure _)) aM
   ·have g2:decide ((o.length:Int) > 0)=false:=decide_eq_false (by omega)
    have he:o=[]:=List.length_eq_zero_iff.1 (by omega)
    have hJ2:JnI (o++[u]) (s.drop (k + 1)) R:=by subst he;exact hJ.first
    have hoi2:∀ z∈o++[u],InF z:=fun z hz=>by
     rcases List.mem_append.1 hz with h|h
     ·exact hoi z h
     ·rw [List.mem_singleton] at h;rw [h];exact hxi
    refine Wq<|qW 115 117 rfl<|qM rfl<|qGt rfl<|Nl<|Wo rfl ‹_›<|Wu<|qW 191 196 rfl<|qM rfl<|qG rfl ty80 rfl (Tl rfl)<|Od rfl rfl (LO.buildSlice rfl ty43 ty80 (by decide) (by decide) (.cons rfl rfl rfl rfl (Sl rfl) .nil))<|Od rfl rfl (Lap rfl rfl (Sso rfl rfl (Tl rfl)) rfl (rngs_all rfl) ty43 ty43 ty80 (by decide) (by omega) (by omega) (by decide))<|qA rfl<|Nl ?_
    rw [rng_snocL,show o.length + 1=(o++[u]).length from by simp]
    refine qW 200 202 rfl<|qZ rfl (iW _ (by omega))<|qM rfl<|Nl ?_
    rw [hkk]
    refine WL.rename [(0,194)] 1 (by decide) ?_ ?_ (ihC ((k + 1),(o++[u])) (show s.length - (k + 1) < s.length - k from by omega) (show (k + 1)≤s.length∧(o++[u]).length≤(k + 1)∧(∀ z∈(o++[u]),InF z)∧JnI (o++[u]) (s.drop (k + 1)) R from ⟨by omega,by simp;omega,hoi2,hJ2⟩))
    ·exact aR (aR (aR (aI aM)))
    ·exact aU (kP rfl (rngsC_pure _)) aM
  ·have g1:decide ((k:Int) < (s.length:Int))=false:=decide_eq_false (by omega)
   rw [List.drop_of_length_le (by omega)] at hJ
   obtain rfl:=hJ.done
   clear ihC
   refine Wq<|qW 95 96 rfl<|qK rfl<|Nl<|Wq<|Wo rfl ‹_›<|Wx<|Wq<|qW 206 208 rfl<|qM rfl<|qA rfl<|Nl<|Wy (t:=2) rfl rfl (rngs_all rfl) (rngsC_pure _)<|Wz ⟨.inl rfl,_,mt,(Rc (Rt0 rfl) Rv),aM,?_⟩
   exact ⟨rfl,rfl⟩
end Go.Proofs.YtbfnfgpjgdbmeaaGreatDoor
