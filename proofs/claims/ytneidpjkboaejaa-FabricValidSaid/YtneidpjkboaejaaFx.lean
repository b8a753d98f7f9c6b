/-
  The greatest amount between two switches: both texts. The example of chapter 13; comparing lists of numbers.
-/
import Derived.Test.YtneidpjkboaejaaFc
import Derived.Test.YtneidpjkboaejaaFv
import Derived.Test.YtneidpjkboaejaaMab
namespace Go.Proofs.Ytneidpjkboaejaa
open Go.RowKit
def flowF (f:Fab) (a b:Int):Int:=if a=b then 0 else if aliveB f a && aliveB f b then minCut f (wkF f) a.toNat b.toNat (2 ^ f.dead.length) else 0
def LinksOK (f:Fab):Prop:=∀ i l,f.links[i]?=some l→wkF f i=true→LkOK 1048576 l
def capK (f:Fab) (W χ:Nat→Bool) (k:Nat):Int:=((List.range k).map (capI f W χ)).sum
theorem capK_succ (f:Fab) (W χ:Nat→Bool) (k:Nat):capK f W χ (k + 1)=capK f W χ k + capI f W χ k:=by
 unfold capK;rw [List.range_succ,List.map_append,List.sum_append];simp
theorem capI_bd {f:Fab} (hL:LinksOK f) (χ:Nat→Bool) (i:Nat):0≤capI f (wkF f) χ i∧capI f (wkF f) χ i≤1048576:=by
 unfold capI
 cases hl:f.links[i]? with
 | none=>simp
 | some l =>
  dsimp only
  cases hw:wkF f i
  ·simp
  ·have:=hL i l hl hw
   have h1:=this.c1
   have h2:=this.cB
   split<;>omega
theorem capK_bd {f:Fab} (hL:LinksOK f) (χ:Nat→Bool) (k:Nat):0≤capK f (wkF f) χ k∧capK f (wkF f) χ k≤k * 1048576:=by
 induction k with
 | zero=>simp [capK]
 | succ k ih =>
  rw [capK_succ]
  have:=capI_bd hL χ k
  omega
theorem valid_len {f:Fab} (hv:validB f=true):f.links.length≤24:=by
 unfold validB sizeB at hv
 simp only [Bool.and_eq_true,decide_eq_true_eq] at hv
 omega
theorem valid_links {f:Fab} (h8:f.dead.length≤8) (hv:validB f=true):LinksOK f:=by
 intro i l hl hw
 unfold validB at hv
 simp only [Bool.and_eq_true] at hv
 have:=List.all_eq_true.1 hv.1 l (List.mem_of_getElem? hl)
 unfold lnkB at this
 simp only [Bool.and_eq_true,decide_eq_true_eq,Bool.not_eq_true',beq_eq_false_iff_ne] at this
 obtain ⟨h1,h2,h3,h4⟩:=wkF_wf f i l hl hw
 exact ⟨by omega,by omega,by omega,by omega,this.2.2.2.2.1,by omega,by omega⟩
theorem capStep_bd {f:Fab} (hL:LinksOK f) (k:Nat) (hk:k≤24) (j:Nat):0≤cN (capM f (wkF f) k) j∧cN (capM f (wkF f) k) j≤24 * 1048576:=by
 have:=capM_bd (B:=1048576) (by omega) hL k j
 omega
theorem capM_len2 (f:Fab) (W:Nat→Bool) (k:Nat):(capM f W k).length=64:=by
 induction k with
 | zero=>rfl
 | succ k ih =>
  rw [capM_succ]
  unfold capStep
  split
  ·exact ih
  ·split
   ·rw [addAt_len,addAt_len,ih]
   ·exact ih
theorem flow_min {f:Fab} (hL:LinksOK f) {a b:Nat} {s:Int} (ha:a < f.dead.length) (hb:b < f.dead.length) (hab:a≠b) (h:IsFlow f (wkF f) a b s):s=minCut f (wkF f) a b (2 ^ f.dead.length) :=
 h.uniq (minCut_flow (fun i l hl hW=>(hL i l hl hW).c1) (fun i l hl hW=>by obtain ⟨h1,h2,h3,h4⟩:=wkF_wf f i l hl hW;omega) ha hb hab)
theorem flow_any (f:Fab) (hf:FabS f) (hval:validB f=true) (a b:Int):AFn Try.prog 14 0 [.agg (fabC f),.base (.int .i64 a),.base (.int .i64 b)] mt (.base (.int .i64 (flowF f a b))) mt:=by
 refine AFn.eq Try.func14 rfl rfl (Nat.le_of_ble_eq_true rfl) ?_
 have hal:=alive_any f
 have hwk:=works_any f
 have h24:=valid_len hval
 have hvl:=valid_any f (by omega)
 rw [hval] at hvl
 have hL:=valid_links hf.n8 hval
 obtain ⟨hsw,h8,_⟩:=hf
 refine Wq<|qW 0 2 rfl<|qC rfl<|qA rfl<|Nl ?_
 by_cases hab:a=b
 ·have g1:(a == b)=true:=by simpa using hab
  have hv:flowF f a b=0:=by unfold flowF;rw [if_pos hab]
  refine Wq<|Wq<|qW 6 26 rfl<|qG rfl ty25 rfl (Tl rfl)<|qY rfl (hvl) fok8 rfl<|qO rfl<|qM rfl<|gM rfl rfl<|gM rfl rfl<|gE rfl rfl<|qP rfl rfl rfl<|qM rfl<|qD rfl ‹_› rfl<|qD rfl ‹_› rfl<|qD rfl ‹_› rfl<|qD rfl ‹_› rfl<|qT rfl ‹_› rfl<|qM rfl<|qD rfl rfl rfl<|qD rfl rfl rfl<|qD rfl rfl rfl<|qD rfl rfl rfl<|qT rfl rfl rfl<|Nl<|Wt rfl rfl<|Wq<|qW 30 31 rfl<|qA rfl<|Nl<|Wz ⟨.inl rfl,_,mt,Rc (Rt0 rfl) (Rv),aM,?_⟩
  exact ⟨by rw [hv];rfl,rfl⟩
 ·have g1:(a == b)=false:=by simpa using hab
  cases ha:aliveB f a with
  | false =>
   have g2:(!aliveB f a)=true:=by rw [ha];rfl
   have hv:flowF f a b=0:=by unfold flowF;rw [if_neg hab,ha];rfl
   refine Wq<|Wq<|qW 6 26 rfl<|qG rfl ty25 rfl (Tl rfl)<|qY rfl (hvl) fok8 rfl<|qO rfl<|qM rfl<|gM rfl rfl<|gM rfl rfl<|gE rfl rfl<|qP rfl rfl rfl<|qM rfl<|gG rfl ‹_› ty25 rfl (Tl rfl)<|gM rfl ‹_›<|gY rfl ‹_› (hal _) fok16 rfl<|gO rfl ‹_›<|qP rfl ‹_› rfl<|qM rfl<|qD rfl ‹_› rfl<|qD rfl ‹_› rfl<|qD rfl ‹_› rfl<|qD rfl ‹_› rfl<|qT rfl ‹_› rfl<|Nl<|Wt rfl rfl<|Wq<|qW 30 31 rfl<|qA rfl<|Nl<|Wz ⟨.inl rfl,_,mt,Rc (Rt0 rfl) (Rv),aM,?_⟩
   exact ⟨by rw [hv];rfl,rfl⟩
  | true =>
   have g2:(!aliveB f a)=false:=by rw [ha];rfl
   cases hb:aliveB f b with
   | false =>
    have g3:(!aliveB f b)=true:=by rw [hb];rfl
    have hv:flowF f a b=0:=by unfold flowF;rw [if_neg hab,hb,Bool.and_false];rfl
    refine Wq<|Wq<|qW 6 26 rfl<|qG rfl ty25 rfl (Tl rfl)<|qY rfl (hvl) fok8 rfl<|qO rfl<|qM rfl<|gM rfl rfl<|gM rfl rfl<|gE rfl rfl<|qP rfl rfl rfl<|qM rfl<|gG rfl ‹_› ty25 rfl (Tl rfl)<|gM rfl ‹_›<|gY rfl ‹_› (hal _) fok16 rfl<|gO rfl ‹_›<|qP rfl ‹_› rfl<|qM rfl<|gG rfl ‹_› ty25 rfl (Tl rfl)<|gM rfl ‹_›<|gY rfl ‹_› (hal _) fok16 rfl<|gO rfl ‹_›<|qP rfl ‹_› rfl<|Nl<|Wt rfl ‹_›<|Wq<|qW 30 31 rfl<|qA rfl<|Nl<|Wz ⟨.inl rfl,_,mt,Rc (Rt0 rfl) (Rv),aM,?_⟩
    exact ⟨by rw [hv];rfl,rfl⟩
   | true =>
    have g3:(!aliveB f b)=false:=by rw [hb];rfl
    have hv:flowF f a b=minCut f (wkF f) a.toNat b.toNat (2 ^ f.dead.length):=by unfold flowF;rw [if_neg hab,ha,hb];rfl
    obtain ⟨a0,a1⟩:=aliveB_lt ha
    obtain ⟨b0,b1⟩:=aliveB_lt hb
    refine Wq<|Wq<|qW 6 26 rfl<|qG rfl ty25 rfl (Tl rfl)<|qY rfl (hvl) fok8 rfl<|qO rfl<|qM rfl<|gM rfl rfl<|gM rfl rfl<|gE rfl rfl<|qP rfl rfl rfl<|qM rfl<|gG rfl ‹_› ty25 rfl (Tl rfl)<|gM rfl ‹_›<|gY rfl ‹_› (hal _) fok16 rfl<|gO rfl ‹_›<|qP rfl ‹_› rfl<|qM rfl<|gG rfl ‹_› ty25 rfl (Tl rfl)<|gM rfl ‹_›<|gY rfl ‹_› (hal _) fok16 rfl<|gO rfl ‹_›<|qP rfl ‹_› rfl<|Nl<|Wo rfl ‹_›<|Wu ?_
    obtain ⟨an,rfl⟩:=Int.eq_ofNat_of_zero_le a0
    obtain ⟨bn,rfl⟩:=Int.eq_ofNat_of_zero_le b0
    rw [Int.toNat_natCast,Int.toNat_natCast] at hv
    refine Wq<|qW 35 36 rfl<|qB rfl ty48<|Nl<|Wq<|Wq<|qW 40 44 rfl<|qF rfl ty25 rfl<|qL rfl ty22 rfl<|qH rfl ty22<|qM rfl<|Nl<|Wb<|W.rename [(0,0),(1,35)] 2 (T':=up (up (up (up (up (up (up mt 1 (some (.base (.int .i64 (an:Int))))) 2 (some (.base (.int .i64 (bn:Int))))) 3 (some (.own 0 0))) 7 (some (.own 1 0))) 33 (some (.isl (lnksC f.links) f.links.length))) 34 (some (.base (.int .i64 (f.links.length:Int))))) 35 (some (.base (.int .i64 (0:Int))))) (H':=up (up mt 0 (some (fabC f))) 1 (some (intsC (List.replicate 64 0)))) (by decide) ?_ ?_ ?_
    ·exact aU (lR rfl) (aU (lR rfl) (aU (lR rfl) (aU (lI rfl) (aU (lI rfl) (aU (lR rfl) (aU (lR rfl) aM))))))
    ·exact aU (kR rfl) (aU (kR rfl) aM)
    refine W.loop_ind (α:=Nat × List Int) (fun x=>f.links.length - x.1) 2 (fun x=>up (up (up (up (up (up (up mt 1 (some (.base (.int .i64 (an:Int))))) 2 (some (.base (.int .i64 (bn:Int))))) 3 (some (.own 0 0))) 7 (some (.own 1 0))) 33 (some (.isl (lnksC f.links) f.links.length))) 34 (some (.base (.int .i64 (f.links.length:Int))))) 35 (some (.base (.int .i64 (x.1:Int))))) (fun x=>up (up mt 0 (some (fabC f))) 1 (some (intsC x.2))) (fun x=>x.1≤f.links.length∧x.2=capM f (wkF f) x.1) (0,(List.replicate 64 0)) (show 0≤f.links.length∧(List.replicate 64 0)=capM f (wkF f) 0 from ⟨Nat.zero_le _,rfl⟩) ?_
    rintro ⟨i,nn⟩ hIA ihA
    try (dsimp only at hIA)
    try dsimp only
    obtain ⟨hi,hn⟩:=hIA
    have hnl:nn.length=64:=by rw [hn];exact capM_len2 _ _ _
    by_cases hc2:i < f.links.length
    ·have g7:decide ((i:Int) < (f.links.length:Int))=true:=decide_eq_true (by omega)
     have hl:f.links[i]?=some f.links[i]:=by simp [hc2]
     have hnn:=capM_succ f (wkF f) i
     rw [← hn] at hnn
     unfold capStep at hnn
     rw [hl] at hnn
     dsimp only at hnn
     refine Wq<|qW 48 49 rfl<|qK rfl<|Nl<|Wq<|Wt rfl ‹_›<|Wu<|Wq<|Wb<|Wq<|qW 53 59 rfl<|qM rfl<|qJ rfl rfl ty22 ty38 (by omega)<|Od rfl rfl (Lg rfl rfl ty38 rfl (lnksC_tk hc2))<|qB rfl ty38<|qA rfl<|qS rfl ty38 (Sl rfl) rfl<|Nl ?_
     cases hwi:worksB f i with
     | false =>
      rw [show wkF f i=false from hwi] at hnn
      refine Wq<|qW 63 66 rfl<|qG rfl ty25 rfl (Tl rfl)<|qM rfl<|qY rfl (hwk _) fok11 rfl<|Nl<|Wo rfl ‹_›<|Wu<|qW 104 106 rfl<|qZ rfl (iW _ (by omega))<|qM rfl<|Nl<|WL.rename [(0,0),(1,1)] 2 (by decide) ?_ ?_ (ihA ((i + 1),nn) (show f.links.length - (i + 1) < f.links.length - i from by omega) (show (i + 1)≤f.links.length∧nn=capM f (wkF f) (i + 1) from ⟨by omega,by rw [hnn];simp⟩))
      ·exact aU (lR rfl) (aU (lR rfl) (aU (lR rfl) (aU (lI rfl) (aU (lI rfl) (aU (lR rfl) (aU (lR rfl) aM))))))
      ·exact aU (kP rfl (intsC_pure _)) (aU (kR rfl) aM)
     | true =>
      rw [show wkF f i=true from hwi,if_pos rfl] at hnn
      obtain ⟨x1,x2,x3,x4⟩:=wkF_wf f i _ hl hwi
      have hlk:=hL i _ hl hwi
      have hc1:=hlk.c1
      have hcB:=hlk.cB
      have hab2:=hlk.ne
      have hb1:=capStep_bd hL i (by omega) (f.links[i].a.toNat * 8 + f.links[i].b.toNat)
      have hb2:=capStep_bd hL i (by omega) (f.links[i].b.toNat * 8 + f.links[i].a.toNat)
      rw [← hn] at hb1 hb2
      refine Wq<|qW 63 66 rfl<|qG rfl ty25 rfl (Tl rfl)<|qM rfl<|qY rfl (hwk _) fok11 rfl<|Nl<|Wt rfl ‹_›<|Wq<|Wd 70 83 (by decide) rfl mixed rfl<|qF rfl ty38 rfl<|qL rfl ty3 rfl<|qF rfl ty38 rfl<|qL rfl ty3 rfl<|Od rfl rfl (Ir rfl rfl rfl (Int.toNat_of_nonneg x1).symm ty48 ty46 (by omega))<|Od rfl rfl (Ir rfl rfl rfl (Int.toNat_of_nonneg x3).symm ty46 ty3 (by omega))<|Od rfl rfl (Ld rfl rfl rfl (cc_at hnl (by omega) (by omega)) ty3 rfl)<|qF rfl ty38 rfl<|qL rfl ty3 rfl<|qZ rfl (iW _ (by omega))<|Od rfl rfl (Ir rfl rfl rfl (Int.toNat_of_nonneg x1).symm ty48 ty46 (by omega))<|Od rfl rfl (Ir rfl rfl rfl (Int.toNat_of_nonneg x3).symm ty46 ty3 (by omega))<|qS rfl ty3 (cs_at hnl (by omega) (by omega)) rfl<|Nl ⟨by kernel_rfl,?_⟩
      obtain ⟨n2,hn2⟩:∃ n2,nn.set (f.links[i].a.toNat * 8 + f.links[i].b.toNat) (cN nn (f.links[i].a.toNat * 8 + f.links[i].b.toNat) + f.links[i].c)=n2:=⟨_,rfl⟩
      rw [hn2]
      have hn2a:n2=addAt nn (f.links[i].a.toNat * 8 + f.links[i].b.toNat) f.links[i].c:=hn2.symm
      have hn2l:n2.length=64:=by rw [hn2a,addAt_len];exact hnl
      have h5:cN n2 (f.links[i].b.toNat * 8 + f.links[i].a.toNat)=cN nn (f.links[i].b.toNat * 8 + f.links[i].a.toNat):=by rw [hn2a,cN_add (by omega),if_neg (by omega),Int.add_zero]
      refine Wd 87 100 (by decide) rfl mixed rfl<|qF rfl ty38 rfl<|qL rfl ty3 rfl<|qF rfl ty38 rfl<|qL rfl ty3 rfl<|Od rfl rfl (Ir rfl rfl rfl (Int.toNat_of_nonneg x3).symm ty48 ty46 (by omega))<|Od rfl rfl (Ir rfl rfl rfl (Int.toNat_of_nonneg x1).symm ty46 ty3 (by omega))<|Od rfl rfl (Ld rfl rfl rfl (cc_at hn2l (by omega) (by omega)) ty3 rfl)<|qF rfl ty38 rfl<|qL rfl ty3 rfl<|qZ rfl (iW _ (by omega))<|Od rfl rfl (Ir rfl rfl rfl (Int.toNat_of_nonneg x3).symm ty48 ty46 (by omega))<|Od rfl rfl (Ir rfl rfl rfl (Int.toNat_of_nonneg x1).symm ty46 ty3 (by omega))<|qS rfl ty3 (cs_at hn2l (by omega) (by omega)) rfl<|Nl ⟨by kernel_rfl,(qW 104 106 rfl<|qZ rfl (iW _ (by omega))<|qM rfl<|Nl ?_)⟩
      rw [show n2.set (f.links[i].b.toNat * 8 + f.links[i].a.toNat) (cN n2 (f.links[i].b.toNat * 8 + f.links[i].a.toNat) + f.links[i].c)=addAt n2 (f.links[i].b.toNat * 8 + f.links[i].a.toNat) f.links[i].c from rfl,hn2a,← hnn]
      refine WL.rename [(0,0),(1,1)] 2 (by decide) ?_ ?_ (ihA ((i + 1),(capM f (wkF f) (i + 1))) (show f.links.length - (i + 1) < f.links.length - i from by omega) (show (i + 1)≤f.links.length∧(capM f (wkF f) (i + 1))=capM f (wkF f) (i + 1) from ⟨by omega,rfl⟩))
      ·exact aU (lR rfl) (aU (lR rfl) (aU (lR rfl) (aU (lI rfl) (aU (lI rfl) (aU (lR rfl) (aU (lR rfl) aM))))))
      ·exact aU (kP rfl (intsC_pure _)) (aU (kR rfl) aM)
    ·have g7:decide ((i:Int) < (f.links.length:Int))=false:=decide_eq_false (by omega)
     refine Wq<|qW 48 49 rfl<|qK rfl<|Nl<|Wq<|Wo rfl ‹_›<|Wx ?_
     obtain rfl:i=f.links.length:=by omega
     clear ihA hc2 g7 hi
     have hS:=Sent.start (B:=1048576) (B':=100000000) (by omega) hL (by omega) an bn
     rw [← hn] at hS
     have hcap:=capK_bd hL (fun x=>decide (x=an)) f.links.length
     rw [show capK f (wkF f) (fun x=>decide (x=an)) f.links.length=capC f (wkF f) (fun x=>decide (x=an)) from rfl] at hcap
     have hnab:bn≠an:=fun e=>hab (by rw [e])
     refine Wq<|qW 110 111 rfl<|qA rfl<|Nl<|Wb<|W.rename [(0,0),(1,1)] 2 (T':=up (up (up (up mt 1 (some (.base (.int .i64 (an:Int))))) 2 (some (.base (.int .i64 (bn:Int))))) 7 (some (.own 1 0))) 10 (some (.base (.int .i64 0)))) (H':=up (up mt 0 (some (fabC f))) 1 (some (intsC nn))) (by decide) ?_ ?_ ?_
     ·exact aU (lR rfl) (aU (lI rfl) (aU (lR rfl) (aU (lR rfl) aM)))
     ·exact aU (kP rfl (intsC_pure _)) (aU (kR rfl) aM)
     refine W.loop_ind (α:=Int × List Int) (fun x=>(capC f (wkF f) (fun y=>decide (y=an)) - x.1).toNat) 2 (fun x=>up (up (up (up mt 1 (some (.base (.int .i64 (an:Int))))) 2 (some (.base (.int .i64 (bn:Int))))) 7 (some (.own 1 0))) 10 (some (.base (.int .i64 x.1)))) (fun x=>up (up mt 0 (some (fabC f))) 1 (some (intsC x.2))) (fun x=>Sent f (wkF f) 100000000 an bn x.1 x.2∧0≤x.1) (0,nn) (show Sent f (wkF f) 100000000 an bn 0 nn∧0≤0 from ⟨hS,Int.le_refl _⟩) ?_
     rintro ⟨s,nn⟩ hIB ihB
     try (dsimp only at hIB)
     try dsimp only
     obtain ⟨hS,hs0⟩:=hIB
     have hcut:=hS.cut (fun y=>decide (y=an)) (by simp) (by simpa using hnab)
     have hcn:=cutS_nonneg hS.toLeft (fun y=>decide (y=an))
     obtain ⟨v,H',hcall,c,n2,hOK,rfl,rfl⟩:=augment_any nn an bn 100000000 hS.toLeft (by omega) (by omega) (by omega) (fun e=>hnab e.symm)
     refine Wb<|Wq<|qW 115 119 rfl<|qM rfl<|qM rfl ?_
     have hne:intsC nn≠[]:=fun e=>by have:=congrArg List.length e;rw [intsC_len,hS.len] at this;cases this
     refine Od rfl rfl (C1 (fr:=[]) rfl rfl (hcall) fok19 (.own rfl rfl (.cons rfl (.pure rfl) (.cons rfl (.pure rfl) .nil))) rfl (intsC_pure _) (intsC_pure _) hne (by decide) rfl)<|qA rfl<|Nl ?_
     rcases hOK with ⟨rfl,rfl,fr,dn,u,hA,hfb⟩|⟨hc0,fr,p,hp,hnd,hpp,hle,rfl⟩
     ·have hfl:=hS.stop hA (by omega) hfb
      rw [← flow_min hL (by omega) (by omega) (fun e=>hnab e.symm) hfl] at hv
      have g8:((0:Int) == 0)=true:=rfl
      refine Wq<|Wq<|qW 123 125 rfl<|qM rfl<|qE rfl<|Nl<|Wt rfl rfl<|Wq<|qW 129 131 rfl<|qM rfl<|qA rfl<|Nl<|Wz ⟨.inl rfl,_,mt,Rc (Rt0 rfl) (Rv),aM,?_⟩
      exact ⟨by rw [hv];rfl,rfl⟩
     ·have hS2:=hS.more (by omega) hp hnd hpp (by omega) hle
      have hcut2:=hS2.cut (fun y=>decide (y=an)) (by simp) (by simpa using hnab)
      have hcn2:=cutS_nonneg hS2.toLeft (fun y=>decide (y=an))
      have g8:(c == 0)=false:=by simp;omega
      refine Wq<|Wq<|qW 123 125 rfl<|qM rfl<|qE rfl<|Nl<|Wo rfl ‹_›<|Wu<|qW 135 139 rfl<|qM rfl<|qM rfl<|qZ rfl (iW _ (by omega))<|qA rfl<|Nl<|WL.rename [(0,0),(1,1)] 2 (by decide) ?_ ?_ (ihB ((s + c),(sendP fr c nn p)) (show (capC f (wkF f) (fun y=>decide (y=an)) - (s + c)).toNat < (capC f (wkF f) (fun y=>decide (y=an)) - s).toNat from by omega) (show Sent f (wkF f) 100000000 an bn (s + c) (sendP fr c nn p)∧0≤(s + c) from ⟨hS2,by omega⟩))
      ·exact aU (lR rfl) (aU (lI rfl) (aU (lR rfl) (aU (lR rfl) aM)))
      ·exact aU (kP rfl (intsC_pure _)) (aU (kR rfl) aM)
def fab0:Fab:=⟨3,[⟨0,1,1⟩,⟨1,2,1⟩,⟨2,0,1⟩],[false,false,false],[false,false,false]⟩
def fab1:Fab:=⟨3,[⟨0,1,1⟩,⟨1,2,1⟩,⟨2,0,1⟩],[true,false,false],[false,false,false]⟩
theorem fab0_valid:validB fab0=true:=by decide +kernel
theorem fab1_valid:validB fab1=true:=by decide +kernel
theorem fab0_cuts:cutsF fab0=[]:=by decide +kernel
theorem fab1_cuts:cutsF fab1=[1,2]:=by decide +kernel
theorem fab0_flow:flowF fab0 0 1=2:=by decide +kernel
theorem fab1_flow:flowF fab1 0 1=1:=by decide +kernel
theorem fab0_s:FabS fab0:=⟨rfl,by decide,by decide⟩
theorem fab1_s:FabS fab1:=⟨rfl,by decide,by decide⟩
theorem awake13_any:AFn Try.prog 4 0 [] mt (.base (.bool true)) mt:=by
 refine AFn.eq Try.func4 rfl rfl (Nat.le_of_ble_eq_true rfl) ?_
 have h1:=valid_any fab0 (by decide)
 have h2:=cuts_any fab0 fab0_s
 have h3:=flow_any fab0 fab0_s fab0_valid 0 1
 have h4:=cuts_any fab1 fab1_s
 have h5:=flow_any fab1 fab1_s fab1_valid 0 1
 rw [fab0_valid] at h1
 rw [fab0_cuts] at h2
 rw [fab0_flow] at h3
 rw [fab1_cuts] at h4
 rw [fab1_flow] at h5
 refine Wq<|qW 0 1 rfl<|qA rfl<|Nl<|Wq<|Wd 5 14 (by decide) rfl mixed rfl<|Od rfl rfl (Bs rfl ty38 (.cons rfl rfl rfl rfl (Sl rfl) (.cons rfl rfl rfl rfl (Sl rfl) (.cons rfl rfl rfl rfl (Sl rfl) .nil))))<|Od rfl rfl (Bs rfl ty38 (.cons rfl rfl rfl rfl (Sl rfl) (.cons rfl rfl rfl rfl (Sl rfl) (.cons rfl rfl rfl rfl (Sl rfl) .nil))))<|Od rfl rfl (Bs rfl ty38 (.cons rfl rfl rfl rfl (Sl rfl) (.cons rfl rfl rfl rfl (Sl rfl) (.cons rfl rfl rfl rfl (Sl rfl) .nil))))<|Od rfl rfl (LO.buildSlice rfl ty22 ty38 (by decide) (by decide) (.cons rfl rfl rfl rfl (Sl rfl) (.cons rfl rfl rfl rfl (Sl rfl) (.cons rfl rfl rfl rfl (Sl rfl) .nil))))<|Od rfl rfl (LO.makeSlice rfl rfl rfl rfl rfl ty23 ty4 (by decide) (by omega) (by decide) (by decide))<|Od rfl rfl (LO.makeSlice rfl rfl rfl rfl rfl ty23 ty4 (by decide) (by omega) (by decide) (by decide))<|Od rfl rfl (Bs rfl ty25 (.cons rfl rfl rfl rfl (Sl rfl) (.cons rfl rfl rfl rfl (Sl rfl) (.cons rfl rfl rfl rfl (Sl rfl) (.cons rfl rfl rfl rfl (Sl rfl) .nil)))))<|qB rfl ty25<|qS rfl ty25 (Sl rfl) rfl<|Nl ⟨by kernel_rfl,(Wv (q:=12) (j:=1) (r:=8) rfl rfl (by decide) rfl (Tl rfl) rfl (Sl rfl)<|Wv (q:=12) (j:=2) (r:=9) rfl rfl (by decide) rfl (Tl rfl) rfl (Sl rfl)<|Wv (q:=12) (j:=3) (r:=10) rfl rfl (by decide) rfl (Tl rfl) rfl (Sl rfl)<|Wq<|qW 18 21 rfl<|qG rfl ty25 rfl (Tl rfl)<|qB rfl ty25<|qS rfl ty25 (Sl rfl) rfl<|Nl<|Wq<|qW 25 28 rfl<|Od rfl rfl (LO.buildSlice rfl ty23 ty4 (by decide) (by decide) (.cons rfl rfl rfl rfl (Sl rfl) (.cons rfl rfl rfl rfl (Sl rfl) (.cons rfl rfl rfl rfl (Sl rfl) .nil))))<|qF rfl ty25 rfl<|qS rfl ty23 (Sl rfl) rfl<|Nl<|Wv (q:=19) (j:=2) (r:=25) rfl rfl (by decide) rfl (Tl rfl) rfl (Sl rfl)<|Wq<|qW 32 57 rfl<|qG rfl ty25 rfl (Tl rfl)<|qY rfl (h1) fok8 rfl<|qM rfl<|gG rfl rfl ty25 rfl (Tl rfl)<|gY rfl rfl (h2) fok13 rfl<|gH rfl rfl ty26<|gE rfl rfl<|qT rfl rfl rfl<|qM rfl<|gG rfl rfl ty25 rfl (Tl rfl)<|gY rfl rfl (h3) fok14 rfl<|gE rfl rfl<|qT rfl rfl rfl<|qM rfl<|gG rfl rfl ty25 rfl (Tl rfl)<|gY rfl rfl (h4) fok13 rfl<|gH rfl rfl ty26<|gE rfl rfl<|qT rfl rfl rfl<|qM rfl<|gG rfl rfl ty25 rfl (Tl rfl)<|gY rfl rfl (h5) fok14 rfl<|gE rfl rfl<|qT rfl rfl rfl<|qA rfl<|Nl<|Wz ⟨.inl rfl,_,mt,Rc (Rt0 rfl) (Rv),aM,?_⟩)⟩
 exact ⟨rfl,rfl⟩
end Go.Proofs.Ytneidpjkboaejaa
