/-
  The prefixes of resources; resources, certificates and signed origins that are drawn.
-/
import Derived.Test.YtbfnfgpjgdbmeaaGreatDoorNi
import Derived.Test.YtbfnfgpjgdbmeaaGreatDoorVt
import Derived.Test.YtbfnfgpjgdbmeaaGreatDoorMab
namespace Go.Proofs.YtbfnfgpjgdbmeaaGreatDoor
open Go.RowKit
def bd260 (k:Nat):Nat:=k * 260
theorem bd260_succ (k:Nat):bd260 (k + 1)=bd260 k + 260:=by unfold bd260;omega
theorem bd260_le {k:Nat} (h:k≤256):bd260 k≤66560:=by unfold bd260;omega
set_option maxHeartbeats 1000000 in
theorem prefixes_any (r:Rsc) (hr:RscOk r):∃ v H',AFn Tryz.prog 25 0 [.agg (rscC r)] mt v H'∧∃ ps:List Pre,((∀ q∈ps,PreOk q)∧ps.length≤66560)∧v=.isl (presC ps) ps.length∧H'=mt:=by
 refine AFn.ex Tryz.func25 rfl rfl (Nat.le_of_ble_eq_true rfl) ?_
 obtain ⟨_,rai,ral,_,_,_⟩:=hr
 obtain ⟨ad,ns⟩:=r
 dsimp only at rai ral
 unfold rscC
 dsimp only
 refine Wq<|qW 0 2 rfl<|qC rfl<|qA rfl<|Nl<|Wq<|qW 6 7 rfl<|qA rfl<|Nl<|W.name 7 (7 + 1) (t:=3) (sz:=4) rfl (by decide) (by decide)<|Wq<|Wq<|qW 11 15 rfl<|qF rfl ty46 rfl<|qL rfl ty43 rfl<|qH rfl ty43<|qM rfl<|Nl<|Wb<|W.rename [(0,7)] 1 (by decide) ?_ ?_ (W.loop_ind (α:=Nat × List Pre) (fun x=>ad.length - x.1) 1 (fun x=>up (up (up (up mt 3 (some (.osl 0 0 x.2.length 4))) 7 (some (.isl (rngsC ad) ad.length))) 8 (some (.base (.int .i64 (ad.length:Int))))) 9 (some (.base (.int .i64 (x.1:Int))))) (fun x=>up mt 0 (some (presC x.2))) (fun x=>x.1≤ad.length∧x.2.length≤bd260 x.1∧∀ z∈x.2,PreOk z) (0,(([]:List Pre))) (show 0≤ad.length∧(([]:List Pre)).length≤bd260 0∧∀ z∈(([]:List Pre)),PreOk z from ⟨Nat.zero_le _,by simp,fun x h=>absurd h List.not_mem_nil⟩) ?_)
 ·exact aR (aR (aR (aI aM)))
 ·exact aU (kR rfl) aM
 rintro ⟨k,ps⟩ hIA ihA
 try (dsimp only at hIA)
 try dsimp only
 obtain ⟨hk,hpl,hps⟩:=hIA
 have hbs:=bd260_succ k
 have hbl:=bd260_le (k:=k) (by omega)
 by_cases hc:k < ad.length
 ·have g1:decide ((k:Int) < (ad.length:Int))=true:=decide_eq_true (by omega)
  have hkk:(k:Int) + 1=((k + 1:Nat):Int):=by omega
  have hut:=rng_tk' hc
  have hui:=rai ad[k] (List.getElem_mem hc)
  obtain ⟨u,hu⟩:∃ u,ad[k]=u:=⟨_,rfl⟩
  rw [hu] at hut hui
  obtain ⟨_,_,hD,qs,⟨hqs,hqn⟩,rfl,rfl⟩:=divide_any _ ⟨⟨(adOf u.1).v6,0,0⟩,0⟩ (fam0_pok _) rfl u hui
  have h1:=bdP_le (plP ⟨⟨(adOf u.1).v6,0,0⟩,0⟩).1 (plP ⟨⟨(adOf u.1).v6,0,0⟩,0⟩).2 u.1 u.2 (frP ⟨⟨(adOf u.1).v6,0,0⟩,0⟩)
  have h2:=frP_le (p:=⟨⟨(adOf u.1).v6,0,0⟩,0⟩)
  have hq2:qs.length≤258:=by omega
  have hall:∀ q∈ps++qs,PreOk q:=fun q h=>by
   rcases List.mem_append.1 h with h|h
   ·exact hps q h
   ·exact hqs q h
  clear hqn h1 h2
  refine Wq<|qW 19 20 rfl<|qK rfl<|Nl<|Wq<|Wt rfl ‹_›<|Wu<|Wq<|Wb<|Wq<|qW 24 28 rfl<|qJ rfl rfl ty43 ty80 (by omega)<|Od rfl rfl (Lg rfl rfl ty80 rfl hut)<|qB rfl ty80<|qS rfl ty80 (Sl rfl) rfl<|Nl<|qW 32 42 rfl<|qM rfl<|qF rfl ty80 rfl<|qF rfl ty36 rfl<|qL rfl ty4 rfl<|Od rfl rfl (Bs rfl ty36 (.cons rfl rfl rfl rfl (Sl rfl) .nil))<|Od rfl rfl (Bs rfl ty38 (.cons rfl rfl rfl rfl (Sl rfl) .nil))<|qG rfl ty80 rfl (Tl rfl)<|Od rfl rfl (LO.callO (fr:=[]) rfl rfl (hD) fok78 (.cons rfl (.pure rfl) (.cons rfl (.pure rfl) .nil)) (presC_pure _) (by decide))<|Od rfl rfl (Lap rfl rfl (Sso rfl rfl (pres_all rfl)) rfl (pres_all rfl) ty54 ty54 ty38 (by decide) (by omega) (by omega) (by decide))<|qA rfl<|Nl ?_
  rw [← presC_app,show ps.length + qs.length=(ps++qs).length from by simp]
  refine qW 46 48 rfl<|qZ rfl (iW _ (by omega))<|qM rfl<|Nl ?_
  rw [hkk]
  refine WL.rename [(0,40)] 1 (by decide) ?_ ?_ (ihA ((k + 1),(ps++qs)) (show ad.length - (k + 1) < ad.length - k from by omega) (show (k + 1)≤ad.length∧(ps++qs).length≤bd260 (k + 1)∧∀ z∈(ps++qs),PreOk z from ⟨by omega,by simp;omega,hall⟩))
  ·exact aR (aR (aR (aI aM)))
  ·exact aU (kP rfl (presC_pure _)) aM
 ·have g1:decide ((k:Int) < (ad.length:Int))=false:=decide_eq_false (by omega)
  clear ihA
  refine Wq<|qW 19 20 rfl<|qK rfl<|Nl<|Wq<|Wo rfl ‹_›<|Wx<|Wq<|qW 52 54 rfl<|qM rfl<|qA rfl<|Nl<|Wy (t:=2) rfl rfl (pres_all rfl) (presC_pure _)<|Wz ⟨.inl rfl,_,mt,(Rc (Rt0 rfl) Rv),aM,?_⟩
  exact ⟨ps,⟨hps,by omega⟩,rfl,rfl⟩
theorem five_at {x r:Nat} (hx:x < 20) (h:r < 5):∃ y:Int,(0≤y∧y≤4294967286)∧([.base (.int .i64 0),.base (.int .i64 1),.base (.int .i64 5),.base (.int .i64 4294967286),.base (.int .i64 (x:Int))]:List AV)[0 + r * 1]?=some (.base (.int .i64 y)):=by
 match r,h with
 | 0,_=>exact ⟨0,by omega,rfl⟩
 | 1,_=>exact ⟨1,by omega,rfl⟩
 | 2,_=>exact ⟨5,by omega,rfl⟩
 | 3,_=>exact ⟨4294967286,by omega,rfl⟩
 | 4,_=>exact ⟨(x:Int),by omega,rfl⟩
theorem pres_snocL (l:List Pre) (p:Pre):presC l++[.base (.bool p.ad.v6),.base (.int .u64 p.ad.hi),.base (.int .u64 p.ad.lo),.base (.int .i64 p.len)]=presC (l++[p]):=pres_snoc l p
set_option maxHeartbeats 1000000 in
theorem dres_any (l:List Int) (at_:Nat) (hl:l.length≤9223372036854775807) :
 ∃ v H',AFn Tryz.prog 22 1 [.own 0 0] (up mt 0 (some (deckC l at_))) v H'∧∃ (r:Rsc) (at':Nat),RscOk r∧v=.agg (rscC r)∧H'=up mt 0 (some (deckC l at')):=by
 refine AFn.ex Tryz.func22 rfl rfl (Nat.le_of_ble_eq_true rfl) ?_
 obtain ⟨n0,a0,bn,hn⟩:=nextC l at_ 6 (by decide) (by decide) hl
 refine Wq<|qW 1 2 rfl<|qB rfl ty46<|Nl<|Wq<|qW 6 7 rfl<|qA rfl<|Nl<|W.name 7 (7 + 1) (t:=3) (sz:=4) rfl (by decide) (by decide)<|Wq<|qW 11 12 rfl<|qA rfl<|Nl<|W.name 12 (12 + 1) (t:=4) (sz:=2) rfl (by decide) (by decide)<|Wq<|Wq<|qW 16 19 rfl<|qM rfl<|Od rfl rfl (C1 (fr:=[]) rfl rfl (hn) fok21 (.own rfl rfl (.cons rfl (.pure rfl) .nil)) rfl rfl rfl (Cn _ _) (by decide) rfl)<|qA rfl<|Nl<|Wb<|W.rename [(0,0),(1,1),(2,7),(3,12)] 4 (by decide) ?_ ?_ (W.loop_ind (α:=Int × Nat × List Pre) (fun x=>x.1.toNat) 4 (fun x=>up (up (up (up (up mt 0 (some (.own 0 0))) 2 (some (.own 1 0))) 3 (some (.osl 2 0 x.2.2.length 4))) 4 (some (.osl 3 0 0 2))) 5 (some (.base (.int .i64 x.1)))) (fun x=>up (up (up (up mt 0 (some (deckC l x.2.1))) 1 (some ([.nils,.nils]))) 2 (some (presC x.2.2))) 3 (some ([]))) (fun x=>(0≤x.1∧x.2.2.length + x.1≤5)∧∀ z∈x.2.2,PreOk z) (((n0:Int)),a0,(([]:List Pre))) (show (0≤((n0:Int))∧(([]:List Pre)).length + ((n0:Int))≤5)∧∀ z∈(([]:List Pre)),PreOk z from ⟨⟨by omega,by simp;omega⟩,fun x h=>absurd h List.not_mem_nil⟩) ?_)
 ·exact aR (aI (aI (aI (aI aM))))
 ·exact aU (kR rfl) (aU (kR rfl) (aU (kR rfl) (aU (kR rfl) aM)))
 rintro ⟨n,b,ps⟩ hIA ihA
 try (dsimp only at hIA)
 try dsimp only
 obtain ⟨⟨hn0,hn3⟩,hps⟩:=hIA
 by_cases hc:0 < n
 ·have g1:decide (n > 0)=true:=decide_eq_true hc
  obtain ⟨_,_,hdp,p,b1,hpo,rfl,rfl⟩:=dprefix_any l b hl
  refine Wq<|Wq<|qW 23 25 rfl<|qM rfl<|qGt rfl<|Nl<|Wt rfl ‹_›<|Wu<|Wq<|Wb<|qW 29 35 rfl<|qM rfl<|qM rfl<|Od rfl rfl (C1 (fr:=[]) rfl rfl (hdp) fok37 (.own rfl rfl .nil) rfl rfl rfl (Cn _ _) (by decide) rfl)<|Od rfl rfl (LO.buildSlice rfl ty54 ty38 (by decide) (by decide) (.cons rfl rfl rfl rfl (Sl rfl) .nil))<|Od rfl rfl (Lap rfl rfl (Sso rfl rfl (Tl rfl)) rfl (pres_all rfl) ty54 ty54 ty38 (by decide) (by omega) (by omega) (by decide))<|qA rfl<|Nl ?_
  rw [pres_snocL,show ps.length + 1=(ps++[p]).length from by simp]
  refine qW 39 42 rfl<|qM rfl<|Od rfl rfl (LO.sub_in rfl rfl rfl (iW _ (by omega)))<|qA rfl<|Nl<|WL.rename [(0,0),(1,1),(2,33),(3,3)] 4 (by decide) ?_ ?_ (ihA ((n - 1),b1,(ps++[p])) (show (n - 1).toNat < n.toNat from by omega) (show (0≤(n - 1)∧(ps++[p]).length + (n - 1)≤5)∧∀ z∈(ps++[p]),PreOk z from ⟨⟨by omega,by simp;omega⟩,memR hps hpo⟩))
  ·exact aR (aI (aI (aI (aI aM))))
  ·exact aU (kR rfl) (aU (kP rfl (presC_pure _)) (aU (kR rfl) (aU (kR rfl) aM)))
 ·have g1:decide (n > 0)=false:=decide_eq_false hc
  obtain ⟨n1,a1,bn1,hn1⟩:=nextC l b 4 (by decide) (by decide) hl
  have hp5:ps.length≤5:=by omega
  clear ihA
  refine Wq<|Wq<|qW 23 25 rfl<|qM rfl<|qGt rfl<|Nl<|Wo rfl ‹_›<|Wx<|Wq<|Wq<|qW 46 49 rfl<|qM rfl<|Od rfl rfl (C1 (fr:=[]) rfl rfl (hn1) fok21 (.own rfl rfl (.cons rfl (.pure rfl) .nil)) rfl rfl rfl (Cn _ _) (by decide) rfl)<|qA rfl<|Nl<|Wb<|W.rename [(0,0),(1,1),(2,2),(3,3)] 4 (by decide) ?_ ?_ (W.loop_ind (α:=Int × Nat × List (Int × Int)) (fun x=>x.1.toNat) 4 (fun x=>up (up (up (up (up mt 0 (some (.own 0 0))) 2 (some (.own 1 0))) 3 (some (.osl 2 0 ps.length 4))) 4 (some (.osl 3 0 x.2.2.length 2))) 6 (some (.base (.int .i64 x.1)))) (fun x=>up (up (up (up mt 0 (some (deckC l x.2.1))) 1 (some ([.nils,.nils]))) 2 (some (presC ps))) 3 (some (spnsC x.2.2))) (fun x=>(0≤x.1∧x.2.2.length + x.1≤3)∧∀ z∈x.2.2,InN z) (((n1:Int)),a1,(([]:List (Int × Int)))) (show (0≤((n1:Int))∧(([]:List (Int × Int))).length + ((n1:Int))≤3)∧∀ z∈(([]:List (Int × Int))),InN z from ⟨⟨by omega,by simp;omega⟩,fun x h=>absurd h List.not_mem_nil⟩) ?_)
  ·exact aR (aI (aI (aI (aI aM))))
  ·exact aU (kR rfl) (aU (kP rfl (presC_pure _)) (aU (kR rfl) (aU (kR rfl) aM)))
  rintro ⟨n,b,s⟩ hIB ihB
  try (dsimp only at hIB)
  try dsimp only
  obtain ⟨⟨hm0,hm3⟩,hsi⟩:=hIB
  by_cases hc:0 < n
  ·have g1:decide (n > 0)=true:=decide_eq_true hc
   obtain ⟨x,b1,bx,hx⟩:=nextC l b 20 (by decide) (by decide) hl
   obtain ⟨r,b2,br,hr⟩:=nextC l b1 5 (by decide) (by decide) hl
   obtain ⟨w,b3,bw,hw⟩:=nextC l b2 10 (by decide) (by decide) hl
   obtain ⟨y,hy,hyat⟩:=five_at (x:=x) (r:=r) (by omega) (by omega)
   have hr5:r < 5:=by omega
   refine Wq<|Wq<|qW 53 55 rfl<|qM rfl<|qGt rfl<|Nl<|Wt rfl ‹_›<|Wu<|Wq<|Wb<|Wq<|qW 59 67 rfl<|qM rfl<|Od rfl rfl (C1 (fr:=[]) rfl rfl (hx) fok21 (.own rfl rfl (.cons rfl (.pure rfl) .nil)) rfl rfl rfl (Cn _ _) (by decide) rfl)<|Od rfl rfl (LO.buildSlice rfl ty22 ty3 (by decide) (by decide) (.cons rfl rfl rfl rfl (Sl rfl) (.cons rfl rfl rfl rfl (Sl rfl) (.cons rfl rfl rfl rfl (Sl rfl) (.cons rfl rfl rfl rfl (Sl rfl) (.cons rfl rfl rfl rfl (Sl rfl) .nil))))))<|qM rfl<|Od rfl rfl (C1 (fr:=[]) rfl rfl (hr) fok21 (.own rfl rfl (.cons rfl (.pure rfl) .nil)) rfl rfl rfl (Cn _ _) (by decide) rfl)<|Od rfl rfl (Ia rfl rfl rfl rfl ty22 ty3 (by omega))<|Od rfl rfl (Ld rfl rfl rfl hyat ty3 rfl)<|qA rfl<|Nl<|qW 71 81 rfl<|qM rfl<|qM rfl<|qM rfl<|qM rfl<|Od rfl rfl (C1 (fr:=[]) rfl rfl (hw) fok21 (.own rfl rfl (.cons rfl (.pure rfl) .nil)) rfl rfl rfl (Cn _ _) (by decide) rfl)<|qZ rfl (iW _ (by omega))<|Od rfl rfl (Bs rfl ty125 (.cons rfl rfl rfl rfl (Sl rfl) (.cons rfl rfl rfl rfl (Sl rfl) .nil)))<|Od rfl rfl (LO.buildSlice rfl ty44 ty125 (by decide) (by decide) (.cons rfl rfl rfl rfl (Sl rfl) .nil))<|Od rfl rfl (Lap rfl rfl (Sso rfl rfl (Tl rfl)) rfl (spns_all rfl) ty44 ty44 ty125 (by decide) (by omega) (by omega) (by decide))<|qA rfl<|Nl ?_
   rw [spn_snocL,show s.length + 1=(s++[(y,y + (w:Int))]).length from by simp]
   refine qW 85 88 rfl<|qM rfl<|Od rfl rfl (LO.sub_in rfl rfl rfl (iW _ (by omega)))<|qA rfl<|Nl<|WL.rename [(0,0),(1,1),(2,2),(3,79)] 4 (by decide) ?_ ?_ (ihB ((n - 1),b3,(s++[(y,y + (w:Int))])) (show (n - 1).toNat < n.toNat from by omega) (show (0≤(n - 1)∧(s++[(y,y + (w:Int))]).length + (n - 1)≤3)∧∀ z∈(s++[(y,y + (w:Int))]),InN z from ⟨⟨by omega,by simp;omega⟩,memR hsi ⟨by show y≤y + (w:Int);omega,hy.1,by show y + (w:Int)≤4294967295;omega⟩⟩))
   ·exact aR (aI (aI (aI (aI aM))))
   ·exact aU (kP rfl (spnsC_pure _)) (aU (kP rfl (presC_pure _)) (aU (kR rfl) (aU (kR rfl) aM)))
  ·have g1:decide (n > 0)=false:=decide_eq_false hc
   have hs3:s.length≤3:=by omega
   obtain ⟨_,_,hof,r,e,hr,rfl,rfl⟩:=rof_any ps s hps hsi (by omega) (by omega)
   unfold rscC at hof
   clear ihB
   refine Wq<|Wq<|qW 53 55 rfl<|qM rfl<|qGt rfl<|Nl<|Wo rfl ‹_›<|Wx<|Wy (t:=3) rfl rfl (pres_all rfl) (presC_pure _)<|Wy (t:=4) rfl rfl (spns_all rfl) (spnsC_pure _)<|Wq<|qW 92 101 rfl<|qM rfl<|qM rfl<|qY rfl (hof) fok71 rfl<|qM rfl<|qX rfl<|qX rfl<|qB rfl ty46<|qS rfl ty46 (Sl rfl) rfl<|qA rfl<|Nl<|Wq<|qW 105 107 rfl<|qG rfl ty46 rfl (Tl rfl)<|qS rfl ty46 (Sl rfl) rfl<|Nl<|Wz ⟨.inl rfl,_,(up mt 0 (some (deckC l b))),(Rc (Ra0 rfl rfl ty46 rfl (Tl rfl)) Rv),(aU rfl aM),?_⟩
   exact ⟨r,b,hr,rfl,rfl⟩
theorem cert_snocL (l:List CertR) (c:CertR):certsC l++[.base (.int .i64 c.key),.base (.int .i64 c.iss),.base (.int .i64 c.fr),.base (.int .i64 c.un),.isl (rngsC c.r.ad) c.r.ad.length,.isl (spnsC c.r.ns) c.r.ns.length]=certsC (l++[c]):=by rw [certsC_app];simp [certsC,certC]
set_option maxHeartbeats 4000000 in
theorem dcerts_any (l:List Int) (at_:Nat) (hl:l.length≤9223372036854775807) :
 ∃ v H',AFn Tryz.prog 6 1 [.own 0 0] (up mt 0 (some (deckC l at_))) v H'∧∃ (cs:List CertR) (at':Nat),((∀ c∈cs,CertOk c)∧0 < cs.length∧cs.length≤9)∧v=.isl (certsC cs) cs.length∧H'=up mt 0 (some (deckC l at')):=by
 refine AFn.ex Tryz.func6 rfl rfl (Nat.le_of_ble_eq_true rfl) ?_
 obtain ⟨n0,a0,bn,hn⟩:=nextC l at_ 9 (by decide) (by decide) hl
 refine Wq<|qW 1 2 rfl<|qA rfl<|Nl<|Wq<|qW 6 7 rfl<|qA rfl<|Nl<|W.name 7 (7 + 1) (t:=3) (sz:=6) rfl (by decide) (by decide)<|Wq<|Wq<|qW 11 15 rfl<|qM rfl<|Od rfl rfl (C1 (fr:=[]) rfl rfl (hn) fok21 (.own rfl rfl (.cons rfl (.pure rfl) .nil)) rfl rfl rfl (Cn _ _) (by decide) rfl)<|qZ rfl (iW _ (by omega))<|qA rfl<|Nl<|Wb<|W.rename [(0,0),(1,7)] 2 (by decide) ?_ ?_ (W.loop_ind (α:=Int × Nat × List CertR) (fun x=>x.1.toNat) 2 (fun x=>up (up (up mt 0 (some (.own 0 0))) 3 (some (.osl 1 0 x.2.2.length 6))) 4 (some (.base (.int .i64 x.1)))) (fun x=>up (up mt 0 (some (deckC l x.2.1))) 1 (some (certsC x.2.2))) (fun x=>(0≤x.1∧x.2.2.length + x.1≤9∧0 < x.2.2.length + x.1)∧∀ z∈x.2.2,CertOk z) ((1 + (n0:Int)),a0,(([]:List CertR))) (show (0≤(1 + (n0:Int))∧(([]:List CertR)).length + (1 + (n0:Int))≤9∧0 < (([]:List CertR)).length + (1 + (n0:Int)))∧∀ z∈(([]:List CertR)),CertOk z from ⟨⟨by omega,by simp;omega,by simp;omega⟩,fun x h=>absurd h List.not_mem_nil⟩) ?_)
 ·exact aR (aI (aI aM))
 ·exact aU (kR rfl) (aU (kR rfl) aM)
 rintro ⟨n,b,cs⟩ hIA ihA
 try (dsimp only at hIA)
 try dsimp only
 obtain ⟨⟨hn0,hn3,hn4⟩,hcs⟩:=hIA
 by_cases hc:0 < n
 ·have g1:decide (n > 0)=true:=decide_eq_true hc
  obtain ⟨x1,b1,bx1,hx1⟩:=nextC l b 7 (by decide) (by decide) hl
  obtain ⟨x2,b2,bx2,hx2⟩:=nextC l b1 7 (by decide) (by decide) hl
  obtain ⟨x3,b3,bx3,hx3⟩:=nextC l b2 4 (by decide) (by decide) hl
  obtain ⟨x4,b4,bx4,hx4⟩:=nextC l b3 9 (by decide) (by decide) hl
  obtain ⟨_,_,hdr,r,b5,hr,rfl,rfl⟩:=dres_any l b4 hl
  obtain ⟨x6,b6,bx6,hx6⟩:=nextC l b5 4 (by decide) (by decide) hl
  have hcn:cs.length≤8:=by omega
  refine Wq<|Wq<|qW 19 21 rfl<|qM rfl<|qGt rfl<|Nl<|Wt rfl ‹_›<|Wu<|Wq<|Wb<|Wq<|qW 25 41 rfl<|qM rfl<|Od rfl rfl (C1 (fr:=[]) rfl rfl (hx1) fok21 (.own rfl rfl (.cons rfl (.pure rfl) .nil)) rfl rfl rfl (Cn _ _) (by decide) rfl)<|qZ rfl (iW _ (by omega))<|qM rfl<|Od rfl rfl (C1 (fr:=[]) rfl rfl (hx2) fok21 (.own rfl rfl (.cons rfl (.pure rfl) .nil)) rfl rfl rfl (Cn _ _) (by decide) rfl)<|qZ rfl (iW _ (by omega))<|qM rfl<|Od rfl rfl (C1 (fr:=[]) rfl rfl (hx3) fok21 (.own rfl rfl (.cons rfl (.pure rfl) .nil)) rfl rfl rfl (Cn _ _) (by decide) rfl)<|qM rfl<|Od rfl rfl (C1 (fr:=[]) rfl rfl (hx4) fok21 (.own rfl rfl (.cons rfl (.pure rfl) .nil)) rfl rfl rfl (Cn _ _) (by decide) rfl)<|qZ rfl (iW _ (by omega))<|qM rfl<|Od rfl rfl (C1 (fr:=[]) rfl rfl (hdr) fok22 (.own rfl rfl .nil) rfl rfl rfl (Cn _ _) (by decide) rfl)<|Od rfl rfl (Bs rfl ty48 (.cons rfl rfl rfl rfl (Sl rfl) (.cons rfl rfl rfl rfl (Sl rfl) (.cons rfl rfl rfl rfl (Sl rfl) (.cons rfl rfl rfl rfl (Sl rfl) (.cons rfl rfl rfl rfl (Sl rfl) .nil))))))<|qB rfl ty48<|qS rfl ty48 (Sl rfl) rfl<|Nl<|Wq<|Wq<|qW 45 47 rfl<|qM rfl<|Od rfl rfl (C1 (fr:=[]) rfl rfl (hx6) fok21 (.own rfl rfl (.cons rfl (.pure rfl) .nil)) rfl rfl rfl (Cn _ _) (by decide) rfl)<|Nl<|W.joinK (α:=Nat × Int × Rsc) 3 (fun x=>[(0,.own 0 0),(3,.osl 1 0 cs.length 6),(5,.own 2 0)]) (fun x=>up (up (up mt 0 (some (deckC l x.1))) 1 (some (certsC cs))) 2 (some ([.base (.int .i64 (1 + (x1:Int))),.base (.int .i64 x.2.1),.base (.int .i64 (x3:Int)),.base (.int .i64 (10 + (x4:Int))),.isl (rngsC x.2.2.ad) x.2.2.ad.length,.isl (spnsC x.2.2.ns) x.2.2.ns.length]))) (fun x=>(1≤x.2.1∧x.2.1≤7)∧RscOk x.2.2) (.cons (t:=4) rfl (by exact .inl rfl) .nil) ?_ ?_
  rotate_left
  rintro ⟨d,iss,r⟩ hIJ
  try (dsimp only at hIJ)
  try dsimp only [joinT,baseT,List.cons_append,List.nil_append]
  rotate_right
  ·
   refine Wb ?_
   rcases (show (((x6:Nat):Int) == 0)=true∨((((x6:Nat):Int) == 0)=false∧(((x6:Nat):Int) == 1)=true)∨((((x6:Nat):Int) == 0)=false∧(((x6:Nat):Int) == 1)=false∧(((x6:Nat):Int) == 2)=true)∨((((x6:Nat):Int) == 0)=false∧(((x6:Nat):Int) == 1)=false∧(((x6:Nat):Int) == 2)=false) by cases (((x6:Nat):Int) == 0)<;>cases (((x6:Nat):Int) == 1)<;>cases (((x6:Nat):Int) == 2)<;>simp) with g2|⟨g2,g3⟩|⟨g2,g3,g4⟩|⟨g2,g3,g4⟩
   ·
    refine Wq<|qW 51 53 rfl<|qE rfl<|qA rfl<|Nl<|Wt rfl ‹_›<|qW 57 61 rfl<|qF rfl ty48 rfl<|qL rfl ty3 rfl<|qF rfl ty48 rfl<|qS rfl ty3 (Sl rfl) rfl<|Nl ?_
    intro yJ KJ hJ
    refine W.renameJ [(0,0),(1,1),(2,39)] 3 (by decide) ?_ ?_ (hJ (b6,(1 + (x1:Int)),r) (show (1≤(1 + (x1:Int))∧(1 + (x1:Int))≤7)∧RscOk r from ⟨⟨by omega,by omega⟩,hr⟩))
    ·exact lC (lI rfl) (lC (lI rfl) (lC (lI rfl) (lC (lR rfl) lN)))
    ·exact aU (kR rfl) (aU (kP rfl (certsC_pure _)) (aU (kR rfl) aM))
   ·
    by_cases h0:0 < cs.length
    ·
     have d0:decide ((cs.length:Int) > 0)=true:=decide_eq_true (by omega)
     obtain ⟨y,b7,by_,hy⟩:=nextC l b6 (cs.length:Int) (by omega) (by omega) hl
     have hyl:y < cs.length:=by omega
     have hct:=cert_tk hyl
     obtain ⟨_,_,k3,k4,_,_,_,_,hcr⟩:=hcs cs[y] (List.getElem_mem hyl)
     obtain ⟨c,hcc⟩:∃ c,cs[y]=c:=⟨_,rfl⟩
     rw [hcc] at hct k3 k4 hcr
     have hkk:=hcs c (hcc ▸ List.getElem_mem hyl)
     obtain ⟨_,_,hint,q,e,hq,rfl,rfl⟩:=inter_any c.r r hcr hr
     unfold rscC at hint
     refine Wq<|qW 51 53 rfl<|qE rfl<|qA rfl<|Nl<|Wo rfl ‹_›<|Wq<|qW 65 67 rfl<|qE rfl<|qA rfl<|Nl<|Wt rfl ‹_›<|Wq<|qW 71 74 rfl<|qM rfl<|Od rfl rfl (LO.len rfl rfl ty25)<|qGt rfl<|Nl<|Wt rfl ‹_›<|Wq<|qW 78 87 rfl<|qM rfl<|qM rfl<|qM rfl<|Od rfl rfl (LO.len rfl rfl ty25)<|Od rfl rfl (C1 (fr:=[]) rfl rfl (hy) fok21 (.own rfl rfl (.cons rfl (.pure rfl) .nil)) rfl rfl rfl (Cn _ _) (by decide) rfl)<|Od rfl rfl (Ia rfl rfl rfl rfl ty25 ty48 (by omega))<|qG rfl ty48 rfl hct<|qB rfl ty48<|qS rfl ty48 (Sl rfl) rfl<|Nl<|Wq<|qW 91 95 rfl<|qF rfl ty48 rfl<|qL rfl ty3 rfl<|qF rfl ty48 rfl<|qS rfl ty3 (Sl rfl) rfl<|Nl<|qW 99 109 rfl<|qF rfl ty48 rfl<|qG rfl ty46 rfl (Tl rfl)<|qF rfl ty48 rfl<|qG rfl ty46 rfl (Tl rfl)<|qY rfl (hint) fok23 rfl<|qM rfl<|qX rfl<|qX rfl<|qF rfl ty48 rfl<|qS rfl ty46 (Sl rfl) rfl<|Nl ?_
     intro yJ KJ hJ
     refine W.renameJ [(0,0),(1,1),(2,39)] 3 (by decide) ?_ ?_ (hJ (b7,c.key,q) (show (1≤c.key∧c.key≤7)∧RscOk q from ⟨⟨hkk.k1,hkk.k7⟩,hq⟩))
     ·exact lC (lI rfl) (lC (lI rfl) (lC (lI rfl) (lC (lR rfl) lN)))
     ·exact aU (kR rfl) (aU (kP rfl (certsC_pure _)) (aU (kR rfl) aM))
    ·
     have d0:decide ((cs.length:Int) > 0)=false:=decide_eq_false (by omega)
     refine Wq<|qW 51 53 rfl<|qE rfl<|qA rfl<|Nl<|Wo rfl ‹_›<|Wq<|qW 65 67 rfl<|qE rfl<|qA rfl<|Nl<|Wt rfl ‹_›<|Wq<|qW 71 74 rfl<|qM rfl<|Od rfl rfl (LO.len rfl rfl ty25)<|qGt rfl<|Nl<|Wo rfl ‹_›<|Wu ?_
     intro yJ KJ hJ
     refine W.renameJ [(0,0),(1,1),(2,39)] 3 (by decide) ?_ ?_ (hJ (b6,(1 + (x2:Int)),r) (show (1≤(1 + (x2:Int))∧(1 + (x2:Int))≤7)∧RscOk r from ⟨⟨by omega,by omega⟩,hr⟩))
     ·exact lC (lI rfl) (lC (lI rfl) (lC (lI rfl) (lC (lR rfl) lN)))
     ·exact aU (kR rfl) (aU (kP rfl (certsC_pure _)) (aU (kR rfl) aM))
   ·
    by_cases h0:0 < cs.length
    ·
     have d0:decide ((cs.length:Int) > 0)=true:=decide_eq_true (by omega)
     obtain ⟨y,b7,by_,hy⟩:=nextC l b6 (cs.length:Int) (by omega) (by omega) hl
     have hyl:y < cs.length:=by omega
     have hct:=cert_tk hyl
     obtain ⟨c,hcc⟩:∃ c,cs[y]=c:=⟨_,rfl⟩
     rw [hcc] at hct
     have hkk:=hcs c (hcc ▸ List.getElem_mem hyl)
     refine Wq<|qW 51 53 rfl<|qE rfl<|qA rfl<|Nl<|Wo rfl ‹_›<|Wq<|qW 65 67 rfl<|qE rfl<|qA rfl<|Nl<|Wo rfl ‹_›<|Wq<|qW 113 115 rfl<|qE rfl<|qA rfl<|Nl<|Wt rfl ‹_›<|Wq<|qW 119 122 rfl<|qM rfl<|Od rfl rfl (LO.len rfl rfl ty25)<|qGt rfl<|Nl<|Wt rfl ‹_›<|Wq<|qW 126 135 rfl<|qM rfl<|qM rfl<|qM rfl<|Od rfl rfl (LO.len rfl rfl ty25)<|Od rfl rfl (C1 (fr:=[]) rfl rfl (hy) fok21 (.own rfl rfl (.cons rfl (.pure rfl) .nil)) rfl rfl rfl (Cn _ _) (by decide) rfl)<|Od rfl rfl (Ia rfl rfl rfl rfl ty25 ty48 (by omega))<|qG rfl ty48 rfl hct<|qB rfl ty48<|qS rfl ty48 (Sl rfl) rfl<|Nl<|Wd 139 147 (by decide) rfl mixed rfl<|qF rfl ty48 rfl<|qL rfl ty3 rfl<|qF rfl ty48 rfl<|qG rfl ty46 rfl (Tl rfl)<|qF rfl ty48 rfl<|qS rfl ty3 (Sl rfl) rfl<|qF rfl ty48 rfl<|qS rfl ty46 (Sl rfl) rfl<|Nl ⟨by kernel_rfl,?_⟩
     intro yJ KJ hJ
     refine W.renameJ [(0,0),(1,1),(2,39)] 3 (by decide) ?_ ?_ (hJ (b7,c.key,c.r) (show (1≤c.key∧c.key≤7)∧RscOk c.r from ⟨⟨hkk.k1,hkk.k7⟩,hkk.r⟩))
     ·exact lC (lI rfl) (lC (lI rfl) (lC (lI rfl) (lC (lR rfl) lN)))
     ·exact aU (kR rfl) (aU (kP rfl (certsC_pure _)) (aU (kR rfl) aM))
    ·
     have d0:decide ((cs.length:Int) > 0)=false:=decide_eq_false (by omega)
     refine Wq<|qW 51 53 rfl<|qE rfl<|qA rfl<|Nl<|Wo rfl ‹_›<|Wq<|qW 65 67 rfl<|qE rfl<|qA rfl<|Nl<|Wo rfl ‹_›<|Wq<|qW 113 115 rfl<|qE rfl<|qA rfl<|Nl<|Wt rfl ‹_›<|Wq<|qW 119 122 rfl<|qM rfl<|Od rfl rfl (LO.len rfl rfl ty25)<|qGt rfl<|Nl<|Wo rfl ‹_›<|Wu ?_
     intro yJ KJ hJ
     refine W.renameJ [(0,0),(1,1),(2,39)] 3 (by decide) ?_ ?_ (hJ (b6,(1 + (x2:Int)),r) (show (1≤(1 + (x2:Int))∧(1 + (x2:Int))≤7)∧RscOk r from ⟨⟨by omega,by omega⟩,hr⟩))
     ·exact lC (lI rfl) (lC (lI rfl) (lC (lI rfl) (lC (lR rfl) lN)))
     ·exact aU (kR rfl) (aU (kP rfl (certsC_pure _)) (aU (kR rfl) aM))
   ·
    refine Wq<|qW 51 53 rfl<|qE rfl<|qA rfl<|Nl<|Wo rfl ‹_›<|Wq<|qW 65 67 rfl<|qE rfl<|qA rfl<|Nl<|Wo rfl ‹_›<|Wq<|qW 113 115 rfl<|qE rfl<|qA rfl<|Nl<|Wo rfl ‹_›<|Wu ?_
    intro yJ KJ hJ
    refine W.renameJ [(0,0),(1,1),(2,39)] 3 (by decide) ?_ ?_ (hJ (b6,(1 + (x2:Int)),r) (show (1≤(1 + (x2:Int))∧(1 + (x2:Int))≤7)∧RscOk r from ⟨⟨by omega,by omega⟩,hr⟩))
    ·exact lC (lI rfl) (lC (lI rfl) (lC (lI rfl) (lC (lR rfl) lN)))
    ·exact aU (kR rfl) (aU (kP rfl (certsC_pure _)) (aU (kR rfl) aM))
  obtain ⟨⟨hi1,hi7⟩,hrr⟩:=hIJ
  have hok:CertOk ⟨1 + (x1:Int),iss,(x3:Int),10 + (x4:Int),r⟩:=⟨by show 1≤1 + (x1:Int);omega,by show 1 + (x1:Int)≤7;omega,hi1,hi7,by show 0≤(x3:Int);omega,by show (x3:Int)≤100;omega,by show 0≤10 + (x4:Int);omega,by show 10 + (x4:Int)≤100;omega,hrr⟩
  refine qW 151 156 rfl<|qM rfl<|qG rfl ty48 rfl (Tl rfl)<|Od rfl rfl (LO.buildSlice rfl ty25 ty48 (by decide) (by decide) (.cons rfl rfl rfl rfl (Sl rfl) .nil))<|Od rfl rfl (Lap rfl rfl (Sso rfl rfl (Tl rfl)) rfl (certs_all rfl) ty25 ty25 ty48 (by decide) (by omega) (by omega) (by decide))<|qA rfl<|Nl ?_
  rw [cert_snocL cs ⟨1 + (x1:Int),iss,(x3:Int),10 + (x4:Int),r⟩,show cs.length + 1=(cs++[(⟨1 + (x1:Int),iss,(x3:Int),10 + (x4:Int),r⟩:CertR)]).length from by simp]
  refine qW 160 163 rfl<|qM rfl<|Od rfl rfl (LO.sub_in rfl rfl rfl (iW _ (by omega)))<|qA rfl<|Nl<|WL.rename [(0,0),(1,154)] 2 (by decide) ?_ ?_ (ihA ((n - 1),d,(cs++[(⟨1 + (x1:Int),iss,(x3:Int),10 + (x4:Int),r⟩:CertR)])) (show (n - 1).toNat < n.toNat from by omega) (show (0≤(n - 1)∧(cs++[(⟨1 + (x1:Int),iss,(x3:Int),10 + (x4:Int),r⟩:CertR)]).length + (n - 1)≤9∧0 < (cs++[(⟨1 + (x1:Int),iss,(x3:Int),10 + (x4:Int),r⟩:CertR)]).length + (n - 1))∧∀ z∈(cs++[(⟨1 + (x1:Int),iss,(x3:Int),10 + (x4:Int),r⟩:CertR)]),CertOk z from ⟨⟨by omega,by simp;omega,by simp;omega⟩,memR hcs hok⟩))
  ·exact aR (aI (aI aM))
  ·exact aU (kP rfl (certsC_pure _)) (aU (kR rfl) aM)
 ·have g1:decide (n > 0)=false:=decide_eq_false hc
  clear ihA
  refine Wq<|Wq<|qW 19 21 rfl<|qM rfl<|qGt rfl<|Nl<|Wo rfl ‹_›<|Wx<|Wq<|qW 167 169 rfl<|qM rfl<|qA rfl<|Nl<|Wy (t:=2) rfl rfl (certs_all rfl) (certsC_pure _)<|Wz ⟨.inl rfl,_,(up mt 0 (some (deckC l b))),(Rc (Rt0 rfl) Rv),(aU rfl aM),?_⟩
  exact ⟨cs,b,⟨hcs,by omega,by omega⟩,rfl,rfl⟩
end Go.Proofs.YtbfnfgpjgdbmeaaGreatDoor
