/-
  Spans put in order and joined; resources of prefixes and spans; resources that are valid; what two have in common. What the document's making of a prefix gives for any length; what objects permit is what a table of them says.
-/
import Derived.Test.YtbfnfgpjgdbmeaaGreatDoorNc
import Derived.Test.YtbfnfgpjgdbmeaaGreatDoorMab
import Derived.Test.YtbfnfgpjgdbmeaaGreatDoorHe
namespace Go.Proofs.YtbfnfgpjgdbmeaaGreatDoor
open Go.RowKit
theorem spn_cellTo {l:List (Int × Int)} {k q:Nat} (h:k < l.length) (hq:q=k * 2 + 1):(spnsC l)[q]?=some (.base (.int .i64 l[k].2)):=by
 have h2:=(spn_tk' h).2 1 (.base (.int .i64 l[k].2)) rfl
 rw [hq];exact h2
theorem max_if (a b:Int):(if a < b then b else a)=max a b:=by
 rw [Int.max_def];split<;>split<;>omega
theorem min_if (a b:Int):(if b < a then b else a)=min a b:=by
 rw [Int.min_def];split<;>split<;>omega
set_option maxHeartbeats 4000000 in
theorem spans_any (l:List (Int × Int)) (hl:∀ x∈l,InN x) (hn:l.length≤100000):AFn Tryz.prog 77 0 [.isl (spnsC l) l.length] mt (.isl (spnsC (rngR l)) (rngR l).length) mt:=by
 refine AFn.eq Tryz.func77 rfl rfl (Nat.le_of_ble_eq_true rfl)<|Wq<|qW 0 1 rfl<|qA rfl<|Nl<|Wq<|qW 5 6 rfl<|qA rfl<|Nl<|W.nilt (t:=3) rfl<|Wq<|Wq<|qW 10 13 rfl<|qM rfl<|qH rfl ty44<|qM rfl<|Nl<|Wb<|W.rename [] 0 (by decide) ?_ ?_ (W.loop_ind (α:=Nat × List (Int × Int)) (fun x=>l.length - x.1) 0 (fun x=>up (up (up (up mt 3 (some (.isl (spnsC x.2) x.2.length))) 11 (some (.isl (spnsC l) l.length))) 12 (some (.base (.int .i64 (l.length:Int))))) 13 (some (.base (.int .i64 (x.1:Int))))) (fun x=>mt) (fun x=>x.1≤l.length∧x.2.length=x.1∧srtR x.2 (l.drop x.1)=srtR [] l∧∀ z∈x.2,InN z) (0,(([]:List (Int × Int)))) (show 0≤l.length∧(([]:List (Int × Int))).length=0∧srtR (([]:List (Int × Int))) (l.drop 0)=srtR [] l∧∀ z∈(([]:List (Int × Int))),InN z from ⟨Nat.zero_le _,rfl,rfl,fun x h=>absurd h List.not_mem_nil⟩) ?_)
 ·exact aR (aR (aR (aR aM)))
 ·exact aM
 rintro ⟨k,s⟩ hIA ihA
 try (dsimp only at hIA)
 try dsimp only
 obtain ⟨hk,hsl,hst,hsi⟩:=hIA
 by_cases hc:k < l.length
 ·have g1:decide ((k:Int) < (l.length:Int))=true:=decide_eq_true (by omega)
  have hkk:(k:Int) + 1=((k + 1:Nat):Int):=by omega
  have hxi:=hl l[k] (List.getElem_mem hc)
  have hxt:=spn_tk' hc
  have hstep:=fun s'=>srtR_step (s:=s) hc s'
  obtain ⟨u,hx⟩:∃ u,l[k]=u:=⟨_,rfl⟩
  rw [hx] at hxi hxt hstep
  refine Wq<|qW 17 18 rfl<|qK rfl<|Nl<|Wq<|Wt rfl ‹_›<|Wu<|Wq<|Wb<|Wq<|qW 22 26 rfl<|qJ rfl rfl ty44 ty125 (by omega)<|Od rfl rfl (Lg rfl rfl ty125 rfl hxt)<|qB rfl ty125<|qS rfl ty125 (Sl rfl) rfl<|Nl<|Wq<|qW 30 31 rfl<|qA rfl<|Nl<|Wq<|Wb<|W.rename [(0,24)] 1 (by decide) ?_ ?_ (W.loop_ind (α:=Nat) (fun x=>s.length - x) 1 (fun x=>up (up (up (up (up (up mt 3 (some (.isl (spnsC s) s.length))) 5 (some (.own 0 0))) 6 (some (.base (.int .i64 (x:Int))))) 11 (some (.isl (spnsC l) l.length))) 12 (some (.base (.int .i64 (l.length:Int))))) 13 (some (.base (.int .i64 (k:Int))))) (fun x=>up mt 0 (some (spnC u))) (fun x=>x≤s.length∧∀ (i:Nat) z,i < x→s[i]?=some z→z.1≤u.1) 0 (show 0≤s.length∧∀ (i:Nat) z,i < 0→s[i]?=some z→z.1≤u.1 from ⟨Nat.zero_le _,fun i y h=>absurd h (Nat.not_lt_zero _)⟩) ?_)
  ·exact aR (aR (aR (aR (aI (aR aM)))))
  ·exact aU (kR rfl) aM
  rintro j hIB ihB
  try (dsimp only at hIB)
  try dsimp only
  obtain ⟨hj,hlo⟩:=hIB
  have hcase:(j < s.length∧∃ y,s[j]?=some y∧y.1≤u.1)∨(j < s.length∧(∃ y,s[j]?=some y)∧∀ y,s[j]?=some y→¬ y.1≤u.1)∨j=s.length:=by
   by_cases h1:j < s.length
   ·have h2:s[j]?=some s[j]:=List.getElem?_eq_getElem h1
    by_cases h3:s[j].1≤u.1
    ·exact .inl ⟨h1,_,h2,h3⟩
    ·exact .inr (.inl ⟨h1,⟨_,h2⟩,fun y hy=>by rw [h2] at hy;injection hy with hy;rw [← hy];exact h3⟩)
   ·exact .inr (.inr (by omega))
  rcases hcase with ⟨hjl,y,hy,hyx⟩|hexit
  ·have hyj:s[j]=y:=by rw [List.getElem?_eq_getElem hjl] at hy;injection hy
   have hft:(spnsC s)[j * 2 + 0]?=some (.base (.int .i64 y.1)):=by rw [← hyj];exact spn_frV hjl (by omega)
   have g2:decide ((j:Int) < (s.length:Int))=true:=decide_eq_true (by omega)
   have g3:decide (y.1≤u.1)=true:=decide_eq_true hyx
   have hjj:(j:Int) + 1=((j + 1:Nat):Int):=by omega
   refine Wq<|Wq<|Wd 35 49 (by decide) rfl mixed rfl<|qM rfl<|qM rfl<|qH rfl ty44<|qK rfl<|qM rfl<|gM rfl ‹_›<|gM rfl ‹_›<|qU rfl ‹_› rfl (Ii rfl rfl rfl rfl rfl ty44 ty125 (by omega))<|qU rfl ‹_› rfl (Fi rfl rfl ty125 rfl (by decide))<|qU rfl ‹_› rfl (Li rfl rfl hft ty3 rfl)<|gF rfl ‹_› ty125 rfl<|gL rfl ‹_› ty3 rfl<|gLe rfl ‹_›<|qT rfl ‹_› rfl<|Nl ⟨by kernel_rfl,(Wt rfl ‹_›<|Wu<|Wb<|qW 53 56 rfl<|qM rfl<|qZ rfl (iW _ (by omega))<|qA rfl<|Nl ?_)⟩
   rw [hjj]
   refine WL.rename [(0,0)] 1 (by decide) ?_ ?_ (ihB (j + 1) (show s.length - (j + 1) < s.length - j from by omega) (show (j + 1)≤s.length∧∀ (i:Nat) z,i < (j + 1)→s[i]?=some z→z.1≤u.1 from ⟨by omega,fun i z hi hz=>by rcases (show i < j∨i=j by omega) with h|h;exact hlo i z h hz;subst h;rw [hy] at hz;injection hz with hz;rw [← hz];exact hyx⟩))
   ·exact aR (aR (aR (aR (aI (aR aM)))))
   ·exact aU (kR rfl) aM
  ·have hnl:∀ y,s[j]?=some y→¬ y.1≤u.1:=by
    rcases hexit with ⟨_,_,h⟩|h
    ·exact h
    ·intro y hy;rw [h,List.getElem?_eq_none (Nat.le_refl _)] at hy;cases hy
   have hins:=insR_at j hj hlo hnl
   have hT1:=spns_pre hj
   have hT2:=spns_suf hj
   have hz1:(spnsC (s.take j)).length=(j - 0) * 2:=by rw [spnsC_len,List.length_take,Nat.min_eq_left hj,Nat.sub_zero]
   have hz2:(spnsC (s.drop j)).length=(s.length - j) * 2:=by rw [spnsC_len,List.length_drop]
   have hT3:Tk (spnsC (s.take j)) 0 ((j - 0) * 2) (spnsC (s.take j)):=tk_all hz1
   have hT4:Tk (spnsC (s.take j)++[.base (.int .i64 u.1),.base (.int .i64 u.2)]) 0 ((j - 0 + 1) * 2) (spnsC (s.take j)++[.base (.int .i64 u.1),.base (.int .i64 u.2)]):=tk_all (by rw [List.length_append,hz1];simp;omega)
   have hcs:spnsC (s.take j)++[.base (.int .i64 u.1),.base (.int .i64 u.2)]++spnsC (s.drop j)=spnsC (insR u s):=by
    rw [spn_snocL,← spnsC_app,hins];simp
   have hcn:j - 0 + 1 + (s.length - j)=(insR u s).length:=by rw [insR_len];omega
   have hil:(insR u s).length=k + 1:=by rw [insR_len,hsl]
   have hii:∀ z∈insR u s,InN z:=fun z hz=>by
    rcases insR_mem.1 hz with h|h
    ·rw [h];exact hxi
    ·exact hsi z h
   have hst2:=(hstep (insR u s) rfl).symm.trans hst
   have hs5:s.length≤100000:=by omega
   clear ihB
   rcases hexit with ⟨hjl,⟨y,hy⟩,_⟩|hje
   case' inl =>
    have hyj:s[j]=y:=by rw [List.getElem?_eq_getElem hjl] at hy;injection hy
    have hft:(spnsC s)[j * 2 + 0]?=some (.base (.int .i64 y.1)):=by rw [← hyj];exact spn_frV hjl (by omega)
    have g2:decide ((j:Int) < (s.length:Int))=true:=decide_eq_true (by omega)
    have g3:decide (y.1≤u.1)=false:=decide_eq_false (hnl y hy)
    refine Wq<|Wq<|Wd 35 49 (by decide) rfl mixed rfl<|qM rfl<|qM rfl<|qH rfl ty44<|qK rfl<|qM rfl<|gM rfl ‹_›<|gM rfl ‹_›<|qU rfl ‹_› rfl (Ii rfl rfl rfl rfl rfl ty44 ty125 (by omega))<|qU rfl ‹_› rfl (Fi rfl rfl ty125 rfl (by decide))<|qU rfl ‹_› rfl (Li rfl rfl hft ty3 rfl)<|gF rfl ‹_› ty125 rfl<|gL rfl ‹_› ty3 rfl<|gLe rfl ‹_›<|qT rfl ‹_› rfl<|Nl ⟨by kernel_rfl,(Wo rfl ‹_›<|Wx ?_)⟩
   case' inr =>
    have g2:decide ((j:Int) < (s.length:Int))=false:=decide_eq_false (by omega)
    refine Wq<|Wq<|Wd 35 49 (by decide) rfl mixed rfl<|qM rfl<|qM rfl<|qH rfl ty44<|qK rfl<|qM rfl<|qD rfl ‹_› rfl<|qD rfl ‹_› rfl<|qD rfl ‹_› rfl<|qD rfl ‹_› rfl<|qD rfl ‹_› rfl<|qD rfl ‹_› rfl<|qD rfl ‹_› rfl<|qD rfl ‹_› rfl<|qP rfl ‹_› rfl<|Nl ⟨by kernel_rfl,(Wo rfl rfl<|Wx ?_)⟩
   all_goals
    refine Wd 60 72 (by decide) rfl mixed rfl<|qM rfl<|qM rfl<|Od rfl rfl (Lsi rfl rfl rfl Bnd.no (Ba rfl rfl) (Nat.zero_le _) hj ty44 ty125 hT1)<|Od rfl rfl (Lan rfl rfl (Ssi rfl rfl hz1) ty44 ty44 ty125 (by decide) (by omega) (by omega) (by decide))<|qG rfl ty125 rfl (Tl rfl)<|Od rfl rfl (LO.buildSlice rfl ty44 ty125 (by decide) (by decide) (.cons rfl rfl rfl rfl (Sl rfl) .nil))<|Od rfl rfl (Lap rfl rfl (Sso rfl rfl (Tl rfl)) rfl hT3 ty44 ty44 ty125 (by decide) (by omega) (by omega) (by decide))<|qM rfl<|qM rfl<|Od rfl rfl (Lsi rfl rfl rfl (Ba rfl rfl) Bnd.no hj (Nat.le_refl _) ty44 ty125 hT2)<|Od rfl rfl (Lap rfl rfl (Ssi rfl rfl hz2) rfl hT4 ty44 ty44 ty125 (by decide) (by omega) (by omega) (by decide))<|qA rfl<|Nl ⟨by kernel_rfl,?_⟩
    rw [hcs,hcn]
    refine Wy (t:=3) rfl rfl (spns_all rfl) (spnsC_pure _)<|qW 76 78 rfl<|qZ rfl (iW _ (by omega))<|qM rfl<|Nl ?_
    rw [hkk]
    refine WL.rename [] 0 (by decide) ?_ ?_ (ihA ((k + 1),(insR u s)) (show l.length - (k + 1) < l.length - k from by omega) (show (k + 1)≤l.length∧(insR u s).length=(k + 1)∧srtR (insR u s) (l.drop (k + 1))=srtR [] l∧∀ z∈(insR u s),InN z from ⟨by omega,hil,hst2,hii⟩))
    ·exact aR (aR (aR (aR aM)))
    ·exact aM
 ·have g1:decide ((k:Int) < (l.length:Int))=false:=decide_eq_false (by omega)
  rw [List.drop_of_length_le (by omega)] at hst
  obtain rfl:s=srtR [] l:=hst
  have hjn:=JnI.start l
  obtain ⟨s,hs⟩:∃ s,srtR [] l=s:=⟨_,rfl⟩
  rw [hs] at hsl hsi hjn ⊢
  obtain ⟨R,hR⟩:∃ R,rngR l=R:=⟨_,rfl⟩
  rw [hR] at hjn ⊢
  clear ihA hs hR
  refine Wq<|qW 17 18 rfl<|qK rfl<|Nl<|Wq<|Wo rfl ‹_›<|Wx<|Wq<|qW 82 83 rfl<|qA rfl<|Nl<|W.name 83 (83 + 1) (t:=7) (sz:=2) rfl (by decide) (by decide)<|Wq<|Wq<|qW 87 90 rfl<|qM rfl<|qH rfl ty44<|qM rfl<|Nl<|Wb<|W.rename [(0,83)] 1 (by decide) ?_ ?_ (W.loop_ind (α:=Nat × List (Int × Int)) (fun x=>s.length - x.1) 1 (fun x=>up (up (up (up mt 7 (some (.osl 0 0 x.2.length 2))) 45 (some (.isl (spnsC s) s.length))) 46 (some (.base (.int .i64 (s.length:Int))))) 47 (some (.base (.int .i64 (x.1:Int))))) (fun x=>up mt 0 (some (spnsC x.2))) (fun x=>x.1≤s.length∧x.2.length≤x.1∧(∀ z∈x.2,InN z)∧JnI x.2 (s.drop x.1) R) (0,(([]:List (Int × Int)))) (show 0≤s.length∧(([]:List (Int × Int))).length≤0∧(∀ z∈(([]:List (Int × Int))),InN z)∧JnI (([]:List (Int × Int))) (s.drop 0) R from ⟨Nat.zero_le _,Nat.le_refl _,fun x h=>absurd h List.not_mem_nil,hjn⟩) ?_)
  ·exact aR (aR (aR (aI aM)))
  ·exact aU (kR rfl) aM
  rintro ⟨k,o⟩ hIC ihC
  try (dsimp only at hIC)
  try dsimp only
  obtain ⟨hk,hol,hoi,hJ⟩:=hIC
  by_cases hc:k < s.length
  ·have g1:decide ((k:Int) < (s.length:Int))=true:=decide_eq_true (by omega)
   have hkk:(k:Int) + 1=((k + 1:Nat):Int):=by omega
   have hxi:=hsi s[k] (List.getElem_mem hc)
   have hxt:=spn_tk' hc
   rw [List.drop_eq_getElem_cons hc] at hJ
   obtain ⟨u,hx⟩:∃ u,s[k]=u:=⟨_,rfl⟩
   rw [hx] at hxi hxt hJ
   have hsz5:s.length≤100000:=by omega
   refine Wq<|qW 94 95 rfl<|qK rfl<|Nl<|Wq<|Wt rfl ‹_›<|Wu<|Wq<|Wb<|Wq<|qW 99 103 rfl<|qJ rfl rfl ty44 ty125 (by omega)<|Od rfl rfl (Lg rfl rfl ty125 rfl hxt)<|qB rfl ty125<|qS rfl ty125 (Sl rfl) rfl<|Nl<|Wq<|Wq<|qW 107 110 rfl<|qM rfl<|Od rfl rfl (LO.len rfl rfl ty44)<|qA rfl<|Nl ?_
   by_cases ho:0 < o.length
   ·have g2:decide ((o.length:Int) > 0)=true:=decide_eq_true (by omega)
    obtain ⟨p,y,rfl⟩:=snoc_of ho
    have hyi:=hoi y (by simp)
    have hne:((p++[y]).length:Int) - 1=(p.length:Int):=by simp
    have hnl:p.length < (p++[y]).length:=by simp
    have hAt:(spnsC (p++[y]))[0 + p.length * 2 + 1]?=some (.base (.int .i64 y.2)):=spn_at (by omega)
    have hSt:Sp (spnsC (p++[y])) (0 + p.length * 2 + 1) [.base (.int .i64 (max y.2 u.2))] (spnsC (p++[(y.1,max y.2 u.2)])):=spn_store (by omega)
    have hjs:=joins_spn hxi hyi
    obtain ⟨b1,b2,b3⟩:=hyi
    obtain ⟨c1,c2,c3⟩:=hxi
    by_cases hle:u.1≤y.2 + 1
    ·have g3:decide (u.1≤y.2 + 1)=true:=decide_eq_true hle
     rw [g3] at hjs
     have hJ2:=hJ.join hjs (z:=max y.2 u.2) rfl
     have hoi2:∀ z∈p++[(y.1,max y.2 u.2)],InN z:=fun z hz=>by
      rcases List.mem_append.1 hz with h|h
      ·exact hoi z (by simp [h])
      ·rw [List.mem_singleton] at h
       subst h
       exact ⟨by show y.1≤max y.2 u.2;omega,b2,by show max y.2 u.2≤4294967295;omega⟩
     refine Wq<|Wd 114 128 (by decide) rfl mixed rfl<|qM rfl<|qGt rfl<|qM rfl<|gF rfl ‹_› ty125 rfl<|gL rfl ‹_› ty3 rfl<|gM rfl ‹_›<|gM rfl ‹_›<|qU rfl ‹_› rfl (LO.sub_in rfl rfl rfl (iW _ (by omega)))<|qU rfl ‹_› rfl (Ia rfl rfl rfl hne ty44 ty125 (by omega))<|gF rfl ‹_› ty125 rfl<|qU rfl ‹_› rfl (Ld rfl rfl rfl hAt ty3 rfl)<|qU rfl ‹_› rfl (Ad0 rfl rfl rfl (iW _ (by omega)))<|gLe rfl ‹_›<|qT rfl ‹_› rfl<|Nl ⟨by kernel_rfl,(Wt rfl ‹_›<|Wq<|Wd 132 147 (by decide) rfl mixed rfl<|qM rfl<|qM rfl<|Od rfl rfl (LO.sub_in rfl rfl rfl (iW _ (by omega)))<|qM rfl<|qM rfl<|Od rfl rfl (LO.sub_in rfl rfl rfl (iW _ (by omega)))<|Od rfl rfl (Ia rfl rfl rfl hne ty44 ty125 (by omega))<|qF rfl ty125 rfl<|Od rfl rfl (Ld rfl rfl rfl hAt ty3 rfl)<|qF rfl ty125 rfl<|qL rfl ty3 rfl<|Od rfl rfl (LO.max rfl rfl rfl) ?_)⟩
     rw [max_if]
     refine Od rfl rfl (Ia rfl rfl rfl hne ty44 ty125 (by omega))<|qF rfl ty125 rfl<|qS rfl ty3 hSt rfl<|Nl ⟨by kernel_rfl,(Wx<|qW 160 162 rfl<|qZ rfl (iW _ (by omega))<|qM rfl<|Nl ?_)⟩
     rw [hkk,show (p++[y]).length=(p++[(y.1,max y.2 u.2)]).length from by simp]
     refine WL.rename [(0,0)] 1 (by decide) ?_ ?_ (ihC ((k + 1),(p++[(y.1,max y.2 u.2)])) (show s.length - (k + 1) < s.length - k from by omega) (show (k + 1)≤s.length∧(p++[(y.1,max y.2 u.2)]).length≤(k + 1)∧(∀ z∈(p++[(y.1,max y.2 u.2)]),InN z)∧JnI (p++[(y.1,max y.2 u.2)]) (s.drop (k + 1)) R from ⟨by omega,by simp at hol ⊢;omega,hoi2,hJ2⟩))
     ·exact aR (aR (aR (aI aM)))
     ·exact aU (kP rfl (spnsC_pure _)) aM
    ·have g3:decide (u.1≤y.2 + 1)=false:=decide_eq_false hle
     rw [g3] at hjs
     have hJ2:=hJ.next hjs
     have hoi2:∀ z∈p++[y]++[u],InN z:=fun z hz=>by
      rcases List.mem_append.1 hz with h|h
      ·exact hoi z h
      ·rw [List.mem_singleton] at h;rw [h];exact ⟨c1,c2,c3⟩
     refine Wq<|Wd 114 128 (by decide) rfl mixed rfl<|qM rfl<|qGt rfl<|qM rfl<|gF rfl ‹_› ty125 rfl<|gL rfl ‹_› ty3 rfl<|gM rfl ‹_›<|gM rfl ‹_›<|qU rfl ‹_› rfl (LO.sub_in rfl rfl rfl (iW _ (by omega)))<|qU rfl ‹_› rfl (Ia rfl rfl rfl hne ty44 ty125 (by omega))<|gF rfl ‹_› ty125 rfl<|qU rfl ‹_› rfl (Ld rfl rfl rfl hAt ty3 rfl)<|qU rfl ‹_› rfl (Ad0 rfl rfl rfl (iW _ (by omega)))<|gLe rfl ‹_›<|qT rfl ‹_› rfl<|Nl ⟨by kernel_rfl,(Wo rfl ‹_›<|Wu<|qW 151 156 rfl<|qM rfl<|qG rfl ty125 rfl (Tl rfl)<|Od rfl rfl (LO.buildSlice rfl ty44 ty125 (by decide) (by decide) (.cons rfl rfl rfl rfl (Sl rfl) .nil))<|Od rfl rfl (Lap rfl rfl (Sso rfl rfl (Tl rfl)) rfl (spns_all rfl) ty44 ty44 ty125 (by decide) (by omega) (by omega) (by decide))<|qA rfl<|Nl ?_)⟩
     rw [spn_snocL,show (p++[y]).length + 1=(p++[y]++[u]).length from by simp]
     refine qW 160 162 rfl<|qZ rfl (iW _ (by omega))<|qM rfl<|Nl ?_
     rw [hkk]
     refine WL.rename [(0,154)] 1 (by decide) ?_ ?_ (ihC ((k + 1),(p++[y]++[u])) (show s.length - (k + 1) < s.length - k from by omega) (show (k + 1)≤s.length∧(p++[y]++[u]).length≤(k + 1)∧(∀ z∈(p++[y]++[u]),InN z)∧JnI (p++[y]++[u]) (s.drop (k + 1)) R from ⟨by omega,by simp at hol ⊢;omega,hoi2,hJ2⟩))
     ·exact aR (aR (aR (aI aM)))
     ·exact aU (kP rfl (spnsC_pure _)) aM
   ·have g2:decide ((o.length:Int) > 0)=false:=decide_eq_false (by omega)
    have he:o=[]:=List.length_eq_zero_iff.1 (by omega)
    have hJ2:JnI (o++[u]) (s.drop (k + 1)) R:=by subst he;exact hJ.first
    have hoi2:∀ z∈o++[u],InN z:=fun z hz=>by
     rcases List.mem_append.1 hz with h|h
     ·exact hoi z h
     ·rw [List.mem_singleton] at h;rw [h];exact hxi
    refine Wq<|Wd 114 128 (by decide) rfl mixed rfl<|qM rfl<|qGt rfl<|qM rfl<|qD rfl ‹_› rfl<|qD rfl ‹_› rfl<|qD rfl ‹_› rfl<|qD rfl ‹_› rfl<|qD rfl ‹_› rfl<|qD rfl ‹_› rfl<|qD rfl ‹_› rfl<|qD rfl ‹_› rfl<|qD rfl ‹_› rfl<|qD rfl ‹_› rfl<|qP rfl ‹_› rfl<|Nl ⟨by kernel_rfl,(Wo rfl rfl<|Wu<|qW 151 156 rfl<|qM rfl<|qG rfl ty125 rfl (Tl rfl)<|Od rfl rfl (LO.buildSlice rfl ty44 ty125 (by decide) (by decide) (.cons rfl rfl rfl rfl (Sl rfl) .nil))<|Od rfl rfl (Lap rfl rfl (Sso rfl rfl (Tl rfl)) rfl (spns_all rfl) ty44 ty44 ty125 (by decide) (by omega) (by omega) (by decide))<|qA rfl<|Nl ?_)⟩
    rw [spn_snocL,show o.length + 1=(o++[u]).length from by simp]
    refine qW 160 162 rfl<|qZ rfl (iW _ (by omega))<|qM rfl<|Nl ?_
    rw [hkk]
    refine WL.rename [(0,154)] 1 (by decide) ?_ ?_ (ihC ((k + 1),(o++[u])) (show s.length - (k + 1) < s.length - k from by omega) (show (k + 1)≤s.length∧(o++[u]).length≤(k + 1)∧(∀ z∈(o++[u]),InN z)∧JnI (o++[u]) (s.drop (k + 1)) R from ⟨by omega,by simp;omega,hoi2,hJ2⟩))
    ·exact aR (aR (aR (aI aM)))
    ·exact aU (kP rfl (spnsC_pure _)) aM
  ·have g1:decide ((k:Int) < (s.length:Int))=false:=decide_eq_false (by omega)
   rw [List.drop_of_length_le (by omega)] at hJ
   obtain rfl:=hJ.done
   clear ihC
   refine Wq<|qW 94 95 rfl<|qK rfl<|Nl<|Wq<|Wo rfl ‹_›<|Wx<|Wq<|qW 166 168 rfl<|qM rfl<|qA rfl<|Nl<|Wy (t:=2) rfl rfl (spns_all rfl) (spnsC_pure _)<|Wz ⟨.inl rfl,_,mt,(Rc (Rt0 rfl) Rv),aM,?_⟩
   exact ⟨rfl,rfl⟩
theorem limited_ok (a s:List (Int × Int)) (ha:a.length≤256) (hs:s.length≤256):AFn Tryz.prog 75 0 [.isl (rngsC a) a.length,.isl (spnsC s) s.length] mt (.tup [.agg (rscC ⟨a,s⟩),.base (.int .i64 0)]) mt:=by
 refine AFn.eq Tryz.func75 rfl rfl (Nat.le_of_ble_eq_true rfl) ?_
 have g1:decide ((a.length:Int) > 256)=false:=decide_eq_false (by omega)
 have g2:decide ((s.length:Int) > 256)=false:=decide_eq_false (by omega)
 refine Wq<|qW 0 2 rfl<|qB rfl ty46<|qA rfl<|Nl<|Wq<|Wq<|qW 6 14 rfl<|qM rfl<|qH rfl ty43<|qGt rfl<|qM rfl<|gM rfl ‹_›<|gH rfl ‹_› ty44<|gGt rfl ‹_›<|qP rfl ‹_› rfl<|Nl<|Wo rfl ‹_›<|Wu<|Wq<|qW 25 30 rfl<|qM rfl<|qM rfl<|Od rfl rfl (Bs rfl ty46 (.cons rfl rfl rfl rfl (Sl rfl) (.cons rfl rfl rfl rfl (Sl rfl) .nil)))<|qS rfl ty46 (Sl rfl) rfl<|qA rfl<|Nl<|Wz ⟨.inl rfl,_,mt,(Rc (Ra0 rfl rfl ty46 rfl (Tl rfl)) (Rc (Rt0 rfl) Rv)),aM,?_⟩
 exact ⟨rfl,rfl⟩
theorem limited_err (a s:List (Int × Int)) (h:256 < a.length∨256 < s.length):AFn Tryz.prog 75 0 [.isl (rngsC a) a.length,.isl (spnsC s) s.length] mt (.tup [.agg (rscC ⟨[],[]⟩),.base (.int .i64 3)]) mt:=by
 refine AFn.eq Tryz.func75 rfl rfl (Nat.le_of_ble_eq_true rfl) ?_
 by_cases h1:256 < a.length
 ·have g1:decide ((a.length:Int) > 256)=true:=decide_eq_true (by omega)
  refine Wq<|qW 0 2 rfl<|qB rfl ty46<|qA rfl<|Nl<|Wq<|Wq<|qW 6 14 rfl<|qM rfl<|qH rfl ty43<|qGt rfl<|qM rfl<|qD rfl ‹_› rfl<|qD rfl ‹_› rfl<|qD rfl ‹_› rfl<|qT rfl ‹_› rfl<|Nl<|Wt rfl rfl<|Wq<|qW 18 21 rfl<|Od rfl rfl (Bs rfl ty46 .nil)<|qS rfl ty46 (Sl rfl) rfl<|qA rfl<|Nl<|W.nilc (q:=0) (j:=0) rfl rfl (Sl rfl)<|W.nilc (q:=0) (j:=1) rfl rfl (Sl rfl)<|Wz ⟨.inl rfl,_,mt,(Rc (Ra0 rfl rfl ty46 rfl (Tl rfl)) (Rc (Rt0 rfl) Rv)),aM,?_⟩
  exact ⟨rfl,rfl⟩
 ·have g1:decide ((a.length:Int) > 256)=false:=decide_eq_false (by omega)
  have g2:decide ((s.length:Int) > 256)=true:=decide_eq_true (by omega)
  refine Wq<|qW 0 2 rfl<|qB rfl ty46<|qA rfl<|Nl<|Wq<|Wq<|qW 6 14 rfl<|qM rfl<|qH rfl ty43<|qGt rfl<|qM rfl<|gM rfl ‹_›<|gH rfl ‹_› ty44<|gGt rfl ‹_›<|qP rfl ‹_› rfl<|Nl<|Wt rfl ‹_›<|Wq<|qW 18 21 rfl<|Od rfl rfl (Bs rfl ty46 .nil)<|qS rfl ty46 (Sl rfl) rfl<|qA rfl<|Nl<|W.nilc (q:=0) (j:=0) rfl rfl (Sl rfl)<|W.nilc (q:=0) (j:=1) rfl rfl (Sl rfl)<|Wz ⟨.inl rfl,_,mt,(Rc (Ra0 rfl rfl ty46 rfl (Tl rfl)) (Rc (Rt0 rfl) Rv)),aM,?_⟩
  exact ⟨rfl,rfl⟩
theorem limited_any (a n:List (Int × Int)) (ha:∀ z∈a,InF z) (hn:∀ z∈n,InN z):∃ (r:Rsc) (e:Int),RscOk r∧AFn Tryz.prog 75 0 [.isl (rngsC (rngR a)) (rngR a).length,.isl (spnsC (rngR n)) (rngR n).length] mt (.tup [.agg (rscC r),.base (.int .i64 e)]) mt:=by
 by_cases h:256 < (rngR a).length∨256 < (rngR n).length
 ·exact ⟨_,_,rsc_nil,limited_err _ _ h⟩
 ·exact ⟨_,_,rsc_ok ha hn (by omega) (by omega),limited_ok _ _ (by omega) (by omega)⟩
def presC (l:List Pre):List AV:=l.flatMap preC
theorem presC_pure (l:List Pre):(presC l).all AV.pure1=true:=by
 induction l with
 | nil=>rfl
 | cons x l ih =>
  rw [show presC (x::l)=preC x++presC l from rfl,List.all_append,ih]
  rfl
theorem presC_app (a b:List Pre):presC (a++b)=presC a++presC b:=by simp [presC]
theorem pres_snoc (l:List Pre) (p:Pre):presC l++[.base (.bool p.ad.v6),.base (.int .u64 p.ad.hi),.base (.int .u64 p.ad.lo),.base (.int .i64 p.len)]=presC (l++[p]):=by
 rw [presC_app];rfl
theorem pres_all {l:List Pre} {n:Nat} (h:l.length=n):Tk (presC l) 0 (n * 4) (presC l):=flatAll (c:=preC) (fun _=>rfl) h
end Go.Proofs.YtbfnfgpjgdbmeaaGreatDoor
