/-
  Signed origins that are drawn.
-/
import Derived.Test.YtbfnfgpjgdbmeaaGreatDoorNj
import Derived.Test.YtbfnfgpjgdbmeaaGreatDoorMab
namespace Go.Proofs.YtbfnfgpjgdbmeaaGreatDoor
open Go.RowKit
structure ObjB (o:ObjR):Prop where
 p:PreOk o.p
 m0:0≤o.mx
 m9:o.mx≤128
 a0:0≤o.asn
 a9:o.asn≤9
structure SgOk (s:SgR):Prop where
 k1:1≤s.key
 k7:s.key≤7
 a0:0≤s.asn
 a9:s.asn≤9
 f0:0≤s.fr
 f9:s.fr≤100
 u0:0≤s.un
 u9:s.un≤100
 ol:s.os.length≤3
 o:∀ x∈s.os,ObjB x
theorem sg_snocL (l:List SgR) (s:SgR):sgsC l++[.base (.int .i64 s.key),.base (.int .i64 s.asn),.base (.int .i64 s.fr),.base (.int .i64 s.un),.isl (objsC s.os) s.os.length]=sgsC (l++[s]):=by rw [sgsC_app];simp [sgsC,sgC]
theorem obj_snocL (l:List ObjR) (o:ObjR) (a:Int):objsC l++[.base (.bool o.p.ad.v6),.base (.int .u64 o.p.ad.hi),.base (.int .u64 o.p.ad.lo),.base (.int .i64 o.p.len),.base (.int .i64 o.mx),.base (.int .i64 a)]=objsC (l++[(⟨o.p,o.mx,a⟩:ObjR)]):=by rw [objsC_app];rfl
theorem pre_tk0 {l:List Pre} {k:Nat} (h:k < l.length):Tk (presC l) (k * 4) 4 (preC l[k]):=pre_tk' h
set_option maxHeartbeats 4000000 in
theorem dsigned_any (l:List Int) (at_:Nat) (cs:List CertR) (hcs:∀ c∈cs,CertOk c) (hc0:0 < cs.length) (hc9:cs.length≤9) (hl:l.length≤9223372036854775807) :
 ∃ v H',AFn Tryz.prog 7 1 [.own 0 0,.isl (certsC cs) cs.length] (up mt 0 (some (deckC l at_))) v H'∧∃ (ss:List SgR) (at':Nat),((∀ s∈ss,SgOk s)∧ss.length≤5)∧v=.isl (sgsC ss) ss.length∧H'=up mt 0 (some (deckC l at')):=by
 refine AFn.ex Tryz.func7 rfl rfl (Nat.le_of_ble_eq_true rfl) ?_
 obtain ⟨n0,a0,bn,hn⟩:=nextC l at_ 6 (by decide) (by decide) hl
 refine Wq<|qW 1 2 rfl<|qA rfl<|Nl<|Wq<|qW 6 7 rfl<|qA rfl<|Nl<|W.name 7 (7 + 1) (t:=5) (sz:=5) rfl (by decide) (by decide)<|Wq<|Wq<|qW 11 14 rfl<|qM rfl<|Od rfl rfl (C1 (fr:=[]) rfl rfl (hn) fok21 (.own rfl rfl (.cons rfl (.pure rfl) .nil)) rfl rfl rfl (Cn _ _) (by decide) rfl)<|qA rfl<|Nl<|Wb<|W.rename [(0,0),(1,7)] 2 (by decide) ?_ ?_ (W.loop_ind (α:=Int × Nat × List SgR) (fun x=>x.1.toNat) 2 (fun x=>up (up (up (up mt 0 (some (.own 0 0))) 1 (some (.isl (certsC cs) cs.length))) 5 (some (.osl 1 0 x.2.2.length 5))) 6 (some (.base (.int .i64 x.1)))) (fun x=>up (up mt 0 (some (deckC l x.2.1))) 1 (some (sgsC x.2.2))) (fun x=>(0≤x.1∧x.2.2.length + x.1≤5)∧∀ z∈x.2.2,SgOk z) (((n0:Int)),a0,(([]:List SgR))) (show (0≤((n0:Int))∧(([]:List SgR)).length + ((n0:Int))≤5)∧∀ z∈(([]:List SgR)),SgOk z from ⟨⟨by omega,by simp;omega⟩,fun x h=>absurd h List.not_mem_nil⟩) ?_)
 ·exact aR (aI (aR (aI aM)))
 ·exact aU (kR rfl) (aU (kR rfl) aM)
 rintro ⟨n,b,sl⟩ hIA ihA
 try (dsimp only at hIA)
 try dsimp only
 obtain ⟨⟨hn0,hn3⟩,hsl⟩:=hIA
 by_cases hc:0 < n
 ·have g1:decide (n > 0)=true:=decide_eq_true hc
  obtain ⟨x1,b1,bx1,hx1⟩:=nextC l b 7 (by decide) (by decide) hl
  obtain ⟨x2,b2,bx2,hx2⟩:=nextC l b1 5 (by decide) (by decide) hl
  obtain ⟨x3,b3,bx3,hx3⟩:=nextC l b2 3 (by decide) (by decide) hl
  obtain ⟨x4,b4,bx4,hx4⟩:=nextC l b3 9 (by decide) (by decide) hl
  obtain ⟨x5,b5,bx5,hx5⟩:=nextC l b4 4 (by decide) (by decide) hl
  have d0:decide ((cs.length:Int) > 0)=true:=decide_eq_true (by omega)
  have hsn:sl.length≤4:=by omega
  refine Wq<|Wq<|qW 18 20 rfl<|qM rfl<|qGt rfl<|Nl<|Wt rfl ‹_›<|Wu<|Wq<|Wb<|Wq<|qW 24 37 rfl<|qM rfl<|Od rfl rfl (C1 (fr:=[]) rfl rfl (hx1) fok21 (.own rfl rfl (.cons rfl (.pure rfl) .nil)) rfl rfl rfl (Cn _ _) (by decide) rfl)<|qZ rfl (iW _ (by omega))<|qM rfl<|Od rfl rfl (C1 (fr:=[]) rfl rfl (hx2) fok21 (.own rfl rfl (.cons rfl (.pure rfl) .nil)) rfl rfl rfl (Cn _ _) (by decide) rfl)<|qM rfl<|Od rfl rfl (C1 (fr:=[]) rfl rfl (hx3) fok21 (.own rfl rfl (.cons rfl (.pure rfl) .nil)) rfl rfl rfl (Cn _ _) (by decide) rfl)<|qM rfl<|Od rfl rfl (C1 (fr:=[]) rfl rfl (hx4) fok21 (.own rfl rfl (.cons rfl (.pure rfl) .nil)) rfl rfl rfl (Cn _ _) (by decide) rfl)<|qZ rfl (iW _ (by omega))<|Od rfl rfl (Bs rfl ty42 (.cons rfl rfl rfl rfl (Sl rfl) (.cons rfl rfl rfl rfl (Sl rfl) (.cons rfl rfl rfl rfl (Sl rfl) (.cons rfl rfl rfl rfl (Sl rfl) .nil)))))<|qB rfl ty42<|qS rfl ty42 (Sl rfl) rfl<|Nl<|W.namec 37 (37 + 1) (q:=35) (j:=4) (sz:=6) rfl rfl (Sl rfl) (by decide) (by decide) (by decide)<|Wq<|W.joinK (α:=Nat × Int) 4 (fun x=>[(0,.own 0 0),(1,.isl (certsC cs) cs.length),(5,.osl 1 0 sl.length 5),(6,.base (.int .i64 n)),(7,.own 2 0)]) (fun x=>up (up (up (up mt 0 (some (deckC l x.1))) 1 (some (sgsC sl))) 2 (some ([.base (.int .i64 x.2),.base (.int .i64 (x2:Int)),.base (.int .i64 (x3:Int)),.base (.int .i64 (9 + (x4:Int))),.osl 3 0 0 6]))) 3 (some ([]))) (fun x=>1≤x.2∧x.2≤7) .nil ?_ ?_
  rotate_left
  rintro ⟨d,key⟩ hIJ
  try (dsimp only at hIJ)
  try dsimp only [joinT,baseT,List.cons_append,List.nil_append]
  rotate_right
  ·
   by_cases h5:0 < x5
   ·
    have d5:decide ((x5:Int) > 0)=true:=decide_eq_true (by omega)
    obtain ⟨y,b6,by_,hy⟩:=nextC l b5 (cs.length:Int) (by omega) (by omega) hl
    have hyl:y < cs.length:=by omega
    have hct:=cert_tk' hyl
    obtain ⟨c,hcc⟩:∃ c,cs[y]=c:=⟨_,rfl⟩
    rw [hcc] at hct
    have hkk:=hcs c (hcc ▸ List.getElem_mem hyl)
    have hkey:(certsC cs)[y * 6 + 0]?=some (.base (.int .i64 c.key)):=hct.2 0 _ rfl
    refine Wq<|qW 41 49 rfl<|qM rfl<|qH rfl ty25<|qGt rfl<|qM rfl<|gM rfl ‹_›<|qU rfl ‹_› rfl (C1 (fr:=[]) rfl rfl (hx5) fok21 (.own rfl rfl (.cons rfl (.pure rfl) .nil)) rfl rfl rfl (Cn _ _) (by decide) rfl)<|gGt rfl ‹_›<|qT rfl ‹_› rfl<|Nl<|Wt rfl ‹_›<|qW 53 63 rfl<|qM rfl<|qM rfl<|qM rfl<|qH rfl ty25<|Od rfl rfl (C1 (fr:=[]) rfl rfl (hy) fok21 (.own rfl rfl (.cons rfl (.pure rfl) .nil)) rfl rfl rfl (Cn _ _) (by decide) rfl)<|qJ rfl rfl ty25 ty48 (by omega)<|qI rfl ty48 rfl<|Od rfl rfl (Li rfl rfl hkey ty3 rfl)<|qF rfl ty42 rfl<|qS rfl ty3 (Sl rfl) rfl<|Nl ?_
    intro yJ KJ hJ
    refine W.renameJ [(0,0),(1,1),(2,35),(3,37)] 4 (by decide) ?_ ?_ (hJ (b6,c.key) (show 1≤c.key∧c.key≤7 from ⟨hkk.k1,hkk.k7⟩))
    ·exact lC (lI rfl) (lC (lR rfl) (lC (lI rfl) (lC (lR rfl) (lC (lI rfl) lN))))
    ·exact aU (kR rfl) (aU (kI rfl) (aU (kP rfl (sgsC_pure _)) (aU (kR rfl) aM)))
   ·
    have d5:decide ((x5:Int) > 0)=false:=decide_eq_false (by omega)
    refine Wq<|qW 41 49 rfl<|qM rfl<|qH rfl ty25<|qGt rfl<|qM rfl<|gM rfl ‹_›<|qU rfl ‹_› rfl (C1 (fr:=[]) rfl rfl (hx5) fok21 (.own rfl rfl (.cons rfl (.pure rfl) .nil)) rfl rfl rfl (Cn _ _) (by decide) rfl)<|gGt rfl ‹_›<|qT rfl ‹_› rfl<|Nl<|Wo rfl ‹_›<|Wu ?_
    intro yJ KJ hJ
    refine W.renameJ [(0,0),(1,1),(2,35),(3,37)] 4 (by decide) ?_ ?_ (hJ (b5,(1 + (x1:Int))) (show 1≤(1 + (x1:Int))∧(1 + (x1:Int))≤7 from ⟨by omega,by omega⟩))
    ·exact lC (lI rfl) (lC (lR rfl) (lC (lI rfl) (lC (lR rfl) (lC (lI rfl) lN))))
    ·exact aU (kR rfl) (aU (kI rfl) (aU (kP rfl (sgsC_pure _)) (aU (kR rfl) aM)))
  obtain ⟨hk1,hk7⟩:=hIJ
  obtain ⟨n1,b6,bn1,hn1⟩:=nextC l d 4 (by decide) (by decide) hl
  refine Wq<|Wq<|qW 67 70 rfl<|qM rfl<|Od rfl rfl (C1 (fr:=[]) rfl rfl (hn1) fok21 (.own rfl rfl (.cons rfl (.pure rfl) .nil)) rfl rfl rfl (Cn _ _) (by decide) rfl)<|qA rfl<|Nl<|Wb<|W.rename [(0,0),(1,1),(2,2),(3,3)] 4 (by decide) ?_ ?_ (W.loop_ind (α:=Int × Nat × List ObjR) (fun x=>x.1.toNat) 4 (fun x=>up (up (up (up (up (up mt 0 (some (.own 0 0))) 1 (some (.isl (certsC cs) cs.length))) 5 (some (.osl 1 0 sl.length 5))) 6 (some (.base (.int .i64 n)))) 7 (some (.own 2 0))) 8 (some (.base (.int .i64 x.1)))) (fun x=>up (up (up (up mt 0 (some (deckC l x.2.1))) 1 (some (sgsC sl))) 2 (some ([.base (.int .i64 key),.base (.int .i64 (x2:Int)),.base (.int .i64 (x3:Int)),.base (.int .i64 (9 + (x4:Int))),.osl 3 0 x.2.2.length 6]))) 3 (some (objsC x.2.2))) (fun x=>(0≤x.1∧x.2.2.length + x.1≤3)∧∀ z∈x.2.2,ObjB z) (((n1:Int)),b6,(([]:List ObjR))) (show (0≤((n1:Int))∧(([]:List ObjR)).length + ((n1:Int))≤3)∧∀ z∈(([]:List ObjR)),ObjB z from ⟨⟨by omega,by simp;omega⟩,fun x h=>absurd h List.not_mem_nil⟩) ?_)
  ·exact aR (aI (aR (aI (aR (aI aM)))))
  ·exact aU (kR rfl) (aU (kI rfl) (aU (kP rfl (sgsC_pure _)) (aU (kR rfl) aM)))
  rintro ⟨m,b,os⟩ hIB ihB
  try (dsimp only at hIB)
  try dsimp only
  obtain ⟨⟨hm0,hm3⟩,hos⟩:=hIB
  by_cases hcm:0 < m
  ·have g2:decide (m > 0)=true:=decide_eq_true hcm
   obtain ⟨_,_,hob,o0,c0,hok,rfl,rfl⟩:=dobj_any l b hl
   have hob0:ObjB o0:=⟨hok.p,hok.ge,hok.le,by have:=hok.a1;omega,by have:=hok.a5;omega⟩
   have hon:os.length≤2:=by omega
   refine Wq<|Wq<|qW 74 76 rfl<|qM rfl<|qGt rfl<|Nl<|Wt rfl ‹_›<|Wu<|Wq<|Wb<|Wq<|qW 80 84 rfl<|qM rfl<|Od rfl rfl (C1 (fr:=[]) rfl rfl (hob) fok24 (.own rfl rfl .nil) rfl rfl rfl (Cn _ _) (by decide) rfl)<|qB rfl ty40<|qS rfl ty40 (Sl rfl) rfl<|Nl<|Wq<|Wq<|qW 88 91 rfl<|qM rfl<|qH rfl ty25<|qM rfl<|Nl<|Wb<|W.rename [(0,0),(1,1),(2,2),(3,3),(4,82)] 5 (by decide) ?_ ?_ (W.loop_ind (α:=Nat × Nat × ObjR) (fun x=>cs.length - x.1) 5 (fun x=>up (up (up (up (up (up (up (up (up (up mt 0 (some (.own 0 0))) 1 (some (.isl (certsC cs) cs.length))) 5 (some (.osl 1 0 sl.length 5))) 6 (some (.base (.int .i64 n)))) 7 (some (.own 2 0))) 8 (some (.base (.int .i64 m)))) 9 (some (.own 4 0))) 55 (some (.isl (certsC cs) cs.length))) 56 (some (.base (.int .i64 (cs.length:Int))))) 57 (some (.base (.int .i64 (x.1:Int))))) (fun x=>up (up (up (up (up mt 0 (some (deckC l x.2.1))) 1 (some (sgsC sl))) 2 (some ([.base (.int .i64 key),.base (.int .i64 (x2:Int)),.base (.int .i64 (x3:Int)),.base (.int .i64 (9 + (x4:Int))),.osl 3 0 os.length 6]))) 3 (some (objsC os))) 4 (some (objC x.2.2))) (fun x=>x.1≤cs.length∧ObjB x.2.2) (0,c0,o0) (show 0≤cs.length∧ObjB o0 from ⟨Nat.zero_le _,hob0⟩) ?_)
   ·exact aR (aR (aR (aI (aR (aI (aR (aI (aR (aI aM)))))))))
   ·exact aU (kR rfl) (aU (kP rfl (objsC_pure _)) (aU (kI rfl) (aU (kP rfl (sgsC_pure _)) (aU (kR rfl) aM))))
   rintro ⟨k,e,o⟩ hIC ihC
   try (dsimp only at hIC)
   try dsimp only
   obtain ⟨hk,ho⟩:=hIC
   by_cases hck:k < cs.length
   ·have g3:decide ((k:Int) < (cs.length:Int))=true:=decide_eq_true (by omega)
    have hkk:(k:Int) + 1=((k + 1:Nat):Int):=by omega
    have hct:=cert_tk' hck
    have hcr:=(hcs cs[k] (List.getElem_mem hck)).r
    obtain ⟨c,hcc⟩:∃ c,cs[k]=c:=⟨_,rfl⟩
    rw [hcc] at hct hcr
    obtain ⟨_,_,hpx,ps,⟨hps,hpn⟩,rfl,rfl⟩:=prefixes_any c.r hcr
    obtain ⟨x6,b7,bx6,hx6⟩:=nextC l e 2 (by decide) (by decide) hl
    unfold rscC at hpx
    refine Wq<|qW 95 96 rfl<|qK rfl<|Nl<|Wq<|Wt rfl ‹_›<|Wu<|Wq<|Wb<|Wq<|qW 100 104 rfl<|qJ rfl rfl ty25 ty48 (by omega)<|Od rfl rfl (Lg rfl rfl ty48 rfl hct)<|qB rfl ty48<|qS rfl ty48 (Sl rfl) rfl<|Nl<|Wq<|qW 108 112 rfl<|qF rfl ty48 rfl<|qG rfl ty46 rfl (Tl rfl)<|qY rfl (hpx) fok25 rfl<|qA rfl<|Nl ?_
    by_cases hkey:c.key=key
    ·have d1:(c.key == key)=true:=by simp [hkey]
     by_cases hp0:0 < ps.length
     ·have d2:decide ((ps.length:Int) > 0)=true:=decide_eq_true (by omega)
      by_cases hz:x6=0
      ·have d3:(((x6:Nat):Int) == 0)=true:=by simp [hz]
       obtain ⟨y,b8,by_,hy⟩:=nextC l b7 (ps.length:Int) (by omega) (by omega) hl
       have hyl:y < ps.length:=by omega
       have hpt:=pre_tk0 hyl
       have hpo:=hps ps[y] (List.getElem_mem hyl)
       obtain ⟨p,hpp⟩:∃ p,ps[y]=p:=⟨_,rfl⟩
       rw [hpp] at hpt hpo
       have ho2:ObjB ⟨p,p.len,o.asn⟩:=⟨hpo,hpo.ge,by show p.len≤128;have:=hpo.le;unfold widthA at this;split at this<;>omega,ho.a0,ho.a9⟩
       refine Wq<|qW 116 131 rfl<|qF rfl ty48 rfl<|qL rfl ty3 rfl<|qF rfl ty42 rfl<|qL rfl ty3 rfl<|qE rfl<|qM rfl<|gM rfl ‹_›<|gH rfl ‹_› ty54<|gGt rfl ‹_›<|qT rfl ‹_› rfl<|qM rfl<|gM rfl ‹_›<|qU rfl ‹_› rfl (C1 (fr:=[]) rfl rfl (hx6) fok21 (.own rfl rfl (.cons rfl (.pure rfl) .nil)) rfl rfl rfl (Cn _ _) (by decide) rfl)<|gE rfl ‹_›<|qT rfl ‹_› rfl<|Nl<|Wt rfl ‹_›<|Wq<|qW 135 144 rfl<|qM rfl<|qM rfl<|qM rfl<|qH rfl ty54<|Od rfl rfl (C1 (fr:=[]) rfl rfl (hy) fok21 (.own rfl rfl (.cons rfl (.pure rfl) .nil)) rfl rfl rfl (Cn _ _) (by decide) rfl)<|qJ rfl rfl ty54 ty38 (by omega)<|Od rfl rfl (Lg rfl rfl ty38 rfl hpt)<|qF rfl ty40 rfl<|qS rfl ty38 (Sl rfl) rfl<|Nl<|qW 148 153 rfl<|qF rfl ty40 rfl<|qF rfl ty38 rfl<|qL rfl ty3 rfl<|qF rfl ty40 rfl<|qS rfl ty3 (Sl rfl) rfl<|Nl<|qW 157 159 rfl<|qZ rfl (iW _ (by omega))<|qM rfl<|Nl ?_
       rw [hkk]
       refine WL.rename [(0,0),(1,1),(2,2),(3,3),(4,4)] 5 (by decide) ?_ ?_ (ihC ((k + 1),b8,((⟨p,p.len,o.asn⟩:ObjR))) (show cs.length - (k + 1) < cs.length - k from by omega) (show (k + 1)≤cs.length∧ObjB ((⟨p,p.len,o.asn⟩:ObjR)) from ⟨by omega,ho2⟩))
       ·exact aR (aR (aR (aI (aR (aI (aR (aI (aR (aI aM)))))))))
       ·exact aU (kR rfl) (aU (kP rfl (objsC_pure _)) (aU (kI rfl) (aU (kP rfl (sgsC_pure _)) (aU (kR rfl) aM))))
      ·have d3:(((x6:Nat):Int) == 0)=false:=by simp;omega
       refine Wq<|qW 116 131 rfl<|qF rfl ty48 rfl<|qL rfl ty3 rfl<|qF rfl ty42 rfl<|qL rfl ty3 rfl<|qE rfl<|qM rfl<|gM rfl ‹_›<|gH rfl ‹_› ty54<|gGt rfl ‹_›<|qT rfl ‹_› rfl<|qM rfl<|gM rfl ‹_›<|qU rfl ‹_› rfl (C1 (fr:=[]) rfl rfl (hx6) fok21 (.own rfl rfl (.cons rfl (.pure rfl) .nil)) rfl rfl rfl (Cn _ _) (by decide) rfl)<|gE rfl ‹_›<|qT rfl ‹_› rfl<|Nl<|Wo rfl ‹_›<|Wu<|qW 157 159 rfl<|qZ rfl (iW _ (by omega))<|qM rfl<|Nl ?_
       rw [hkk]
       refine WL.rename [(0,0),(1,1),(2,2),(3,3),(4,4)] 5 (by decide) ?_ ?_ (ihC ((k + 1),b7,o) (show cs.length - (k + 1) < cs.length - k from by omega) (show (k + 1)≤cs.length∧ObjB o from ⟨by omega,ho⟩))
       ·exact aR (aR (aR (aI (aR (aI (aR (aI (aR (aI aM)))))))))
       ·exact aU (kR rfl) (aU (kP rfl (objsC_pure _)) (aU (kI rfl) (aU (kP rfl (sgsC_pure _)) (aU (kR rfl) aM))))
     ·have d2:decide ((ps.length:Int) > 0)=false:=decide_eq_false (by omega)
      refine Wq<|qW 116 131 rfl<|qF rfl ty48 rfl<|qL rfl ty3 rfl<|qF rfl ty42 rfl<|qL rfl ty3 rfl<|qE rfl<|qM rfl<|gM rfl ‹_›<|gH rfl ‹_› ty54<|gGt rfl ‹_›<|qT rfl ‹_› rfl<|qM rfl<|qD rfl ‹_› rfl<|qD rfl ‹_› rfl<|qD rfl ‹_› rfl<|qP rfl ‹_› rfl<|Nl<|Wo rfl rfl<|Wu<|qW 157 159 rfl<|qZ rfl (iW _ (by omega))<|qM rfl<|Nl ?_
      rw [hkk]
      refine WL.rename [(0,0),(1,1),(2,2),(3,3),(4,4)] 5 (by decide) ?_ ?_ (ihC ((k + 1),e,o) (show cs.length - (k + 1) < cs.length - k from by omega) (show (k + 1)≤cs.length∧ObjB o from ⟨by omega,ho⟩))
      ·exact aR (aR (aR (aI (aR (aI (aR (aI (aR (aI aM)))))))))
      ·exact aU (kR rfl) (aU (kP rfl (objsC_pure _)) (aU (kI rfl) (aU (kP rfl (sgsC_pure _)) (aU (kR rfl) aM))))
    ·have d1:(c.key == key)=false:=by simp [hkey]
     refine Wq<|qW 116 131 rfl<|qF rfl ty48 rfl<|qL rfl ty3 rfl<|qF rfl ty42 rfl<|qL rfl ty3 rfl<|qE rfl<|qM rfl<|qD rfl ‹_› rfl<|qD rfl ‹_› rfl<|qD rfl ‹_› rfl<|qP rfl ‹_› rfl<|qM rfl<|qD rfl rfl rfl<|qD rfl rfl rfl<|qD rfl rfl rfl<|qP rfl rfl rfl<|Nl<|Wo rfl rfl<|Wu<|qW 157 159 rfl<|qZ rfl (iW _ (by omega))<|qM rfl<|Nl ?_
     rw [hkk]
     refine WL.rename [(0,0),(1,1),(2,2),(3,3),(4,4)] 5 (by decide) ?_ ?_ (ihC ((k + 1),e,o) (show cs.length - (k + 1) < cs.length - k from by omega) (show (k + 1)≤cs.length∧ObjB o from ⟨by omega,ho⟩))
     ·exact aR (aR (aR (aI (aR (aI (aR (aI (aR (aI aM)))))))))
     ·exact aU (kR rfl) (aU (kP rfl (objsC_pure _)) (aU (kI rfl) (aU (kP rfl (sgsC_pure _)) (aU (kR rfl) aM))))
   ·have g3:decide ((k:Int) < (cs.length:Int))=false:=decide_eq_false (by omega)
    have ho2:ObjB ⟨o.p,o.mx,(x2:Int)⟩:=⟨ho.p,ho.m0,ho.m9,by show 0≤(x2:Int);omega,by show (x2:Int)≤9;omega⟩
    clear ihC
    refine Wq<|qW 95 96 rfl<|qK rfl<|Nl<|Wq<|Wo rfl ‹_›<|Wx<|Wq<|qW 163 167 rfl<|qF rfl ty42 rfl<|qL rfl ty3 rfl<|qF rfl ty40 rfl<|qS rfl ty3 (Sl rfl) rfl<|Nl<|qW 171 178 rfl<|qF rfl ty42 rfl<|qL rfl ty30 rfl<|qG rfl ty40 rfl (Tl rfl)<|Od rfl rfl (LO.buildSlice rfl ty30 ty40 (by decide) (by decide) (.cons rfl rfl rfl rfl (Sl rfl) .nil))<|Od rfl rfl (Lap rfl rfl (Sso rfl rfl (Tl rfl)) rfl (objs_all rfl) ty30 ty30 ty40 (by decide) (by omega) (by omega) (by decide))<|qF rfl ty42 rfl<|qS rfl ty30 (Sl rfl) rfl<|Nl ?_
    rw [obj_snocL os o (x2:Int),show os.length + 1=(os++[(⟨o.p,o.mx,(x2:Int)⟩:ObjR)]).length from by simp]
    refine qW 182 185 rfl<|qM rfl<|Od rfl rfl (LO.sub_in rfl rfl rfl (iW _ (by omega)))<|qA rfl<|Nl<|WL.rename [(0,0),(1,1),(2,2),(3,175)] 4 (by decide) ?_ ?_ (ihB ((m - 1),e,(os++[(⟨o.p,o.mx,(x2:Int)⟩:ObjR)])) (show (m - 1).toNat < m.toNat from by omega) (show (0≤(m - 1)∧(os++[(⟨o.p,o.mx,(x2:Int)⟩:ObjR)]).length + (m - 1)≤3)∧∀ z∈(os++[(⟨o.p,o.mx,(x2:Int)⟩:ObjR)]),ObjB z from ⟨⟨by omega,by simp;omega⟩,memR hos ho2⟩))
    ·exact aR (aI (aR (aI (aR (aI aM)))))
    ·exact aU (kP rfl (objsC_pure _)) (aU (kI rfl) (aU (kP rfl (sgsC_pure _)) (aU (kR rfl) aM)))
  ·have g2:decide (m > 0)=false:=decide_eq_false hcm
   have hso:SgOk ⟨key,(x2:Int),(x3:Int),9 + (x4:Int),os⟩:=⟨hk1,hk7,by show 0≤(x2:Int);omega,by show (x2:Int)≤9;omega,by show 0≤(x3:Int);omega,by show (x3:Int)≤100;omega,by show 0≤9 + (x4:Int);omega,by show 9 + (x4:Int)≤100;omega,by show os.length≤3;omega,hos⟩
   clear ihB
   refine Wq<|Wq<|qW 74 76 rfl<|qM rfl<|qGt rfl<|Nl<|Wo rfl ‹_›<|Wx<|Wv (q:=2) (j:=4) (r:=3) rfl rfl (by decide) rfl (objs_all rfl) (objsC_pure _) (Sl rfl)<|qW 189 194 rfl<|qM rfl<|qG rfl ty42 rfl (Tl rfl)<|Od rfl rfl (LO.buildSlice rfl ty27 ty42 (by decide) (by decide) (.cons rfl rfl rfl rfl (Sl rfl) .nil))<|Od rfl rfl (Lap rfl rfl (Sso rfl rfl (Tl rfl)) rfl (sgs_all rfl) ty27 ty27 ty42 (by decide) (by omega) (by omega) (by decide))<|qA rfl<|Nl ?_
   rw [sg_snocL sl ⟨key,(x2:Int),(x3:Int),9 + (x4:Int),os⟩,show sl.length + 1=(sl++[(⟨key,(x2:Int),(x3:Int),9 + (x4:Int),os⟩:SgR)]).length from by simp]
   refine qW 198 201 rfl<|qM rfl<|Od rfl rfl (LO.sub_in rfl rfl rfl (iW _ (by omega)))<|qA rfl<|Nl<|WL.rename [(0,0),(1,192)] 2 (by decide) ?_ ?_ (ihA ((n - 1),b,(sl++[(⟨key,(x2:Int),(x3:Int),9 + (x4:Int),os⟩:SgR)])) (show (n - 1).toNat < n.toNat from by omega) (show (0≤(n - 1)∧(sl++[(⟨key,(x2:Int),(x3:Int),9 + (x4:Int),os⟩:SgR)]).length + (n - 1)≤5)∧∀ z∈(sl++[(⟨key,(x2:Int),(x3:Int),9 + (x4:Int),os⟩:SgR)]),SgOk z from ⟨⟨by omega,by simp;omega⟩,memR hsl hso⟩))
   ·exact aR (aI (aR (aI aM)))
   ·exact aU (kP rfl (sgsC_pure _)) (aU (kR rfl) aM)
 ·have g1:decide (n > 0)=false:=decide_eq_false hc
  clear ihA
  refine Wq<|Wq<|qW 18 20 rfl<|qM rfl<|qGt rfl<|Nl<|Wo rfl ‹_›<|Wx<|Wq<|qW 205 207 rfl<|qM rfl<|qA rfl<|Nl<|Wy (t:=4) rfl rfl (sgs_all rfl) (sgsC_pure _)<|Wz ⟨.inl rfl,_,(up mt 0 (some (deckC l b))),(Rc (Rt0 rfl) Rv),(aU rfl aM),?_⟩
  exact ⟨sl,b,⟨hsl,by omega⟩,rfl,rfl⟩
end Go.Proofs.YtbfnfgpjgdbmeaaGreatDoor
