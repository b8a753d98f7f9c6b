/-
  ChooseRanks: the document's rank and best, and the law.
-/
import Derived.Test.YthbegdeojkdlbaaCo
import Derived.Test.YthbegdeojkdlbaaMab
namespace Go.Proofs.Ythbegdeojkdlbaa
open Go.RowKit
theorem nats_drop {S:List Nat} {q n:Nat} (h:S.length=n):Tk (natsC S) (0 + q * 1) ((n - q) * 1) (natsC (S.drop q)):=by
 refine ⟨by rw [natsC_len,List.length_drop,h,Nat.mul_one],fun j c hj=>?_⟩
 unfold natsC at hj ⊢
 rw [List.getElem?_map] at hj ⊢
 rw [List.getElem?_drop] at hj
 rwa [show 0 + q * 1 + j=q + j from by omega]
theorem nats_take {S:List Nat} {q n:Nat} (h:S.length=n) (hq:q≤n):Tk (natsC S) 0 (q * 1) (natsC (S.take q)):=by
 refine ⟨by rw [natsC_len,List.length_take,Nat.mul_one];omega,fun j c hj=>?_⟩
 have hlt:=(List.getElem?_eq_some_iff.1 hj).1
 rw [natsC_len,List.length_take] at hlt
 unfold natsC at hj ⊢
 rw [List.getElem?_map] at hj ⊢
 rw [List.getElem?_take_of_lt (by omega)] at hj
 rwa [Nat.zero_add]
set_option maxHeartbeats 4000000 in
theorem rrank_any (p:Po) (l:List Rt) (hp:p.pr.length≤1000) (hp2:∀ x∈p.pr,-10≤x.2∧x.2≤10) (hl:l.length < 20) (ho:∀ r∈l,OkR r):AFn Try.prog 11 0 [.agg (poC p),.isl (rtsC l) l.length] mt (.isl (natsC (isortN (cmpN p l) l.length)) l.length) mt:=by
 refine AFn.eq Try.func11 rfl rfl (Nat.le_of_ble_eq_true rfl) ?_
 have hcmp:=fun (i k:Nat) (hi:i < l.length) (hk:k < l.length)=>rcompare_any p (gR l i) (gR l k) hp hp2 (by rw [gR_at hi];exact ho _ (List.getElem_mem hi)) (by rw [gR_at hk];exact ho _ (List.getElem_mem hk))
 have hgt:=fun (i:Nat) (hi:i < l.length)=>gR_tk hi
 obtain ⟨c,hcd⟩:∃ c,c=cmpN p l:=⟨_,rfl⟩
 have hce:∀ i k,c i k=(cmpF p (gR l i) (gR l k)).1:=fun i k=>by rw [hcd];rfl
 rw [← hcd]
 unfold cmpV at hcmp
 simp only [po_lit] at hcmp ⊢
 clear hcd
 generalize hn:l.length=n at *
 refine Wq<|qW 0 2 rfl<|qC rfl<|qA rfl<|Nl<|Wq<|qW 6 7 rfl<|qA rfl<|Nl<|W.name 7 (7 + 1) (t:=5) (sz:=1) rfl (by decide) (by decide)<|Wq<|Wq<|qW 11 14 rfl<|qM rfl<|qH rfl ty29<|qM rfl<|Nl<|Wb<|W.loop_keep (α:=Nat) (fun x=>n - x) 2 (fun x=>[(2,.own 0 0),(5,.osl 1 0 x 1),(13,.base (.int .i64 (x:Int)))]) (fun x=>up (up mt 0 (some ([.base (.int .i64 p.asn),.base (.bool p.n4),.base (.bool p.n6),.base (.bool p.hol),.base (.int .i64 p.hops),.isl p.dc p.dn,.isl (prsC p.pr) p.pr.length]))) 1 (some (natsC (isortN c x)))) (fun x=>x≤n) 0 [(0,0),(1,7)] (.cons (t:=1) rfl (by exact .inl rfl) (.cons (t:=12) rfl (by exact .inl rfl) .nil)) (show 0≤n from Nat.zero_le _) (by decide) ?_ ?_ ?_
 ·exact lC (lI rfl) (lC (lI rfl) (lC (lR rfl) lN))
 ·exact aU (kR rfl) (aU (kR rfl) aM)
 rintro k hIA ihA
 try (dsimp only at hIA)
 try dsimp only [baseT,List.cons_append,List.nil_append]
 by_cases hc:k < n
 ·have g1:decide ((k:Int) < (n:Int))=true:=decide_eq_true (by omega)
  have hSl:=isortN_len c k
  have hSm:=isortN_lt c k
  have hnext:isortN c (k + 1)=(isortN c k).take (insP c (isortN c k) k k)++k::(isortN c k).drop (insP c (isortN c k) k k):=by
   show ins c (isortN c k) k=_
   unfold ins
   rw [hSl]
  generalize isortN c k=S at *
  refine Wq<|qW 18 19 rfl<|qK rfl<|Nl<|Wq<|Wt rfl ‹_›<|Wu<|Wq<|Wb<|Wq<|qW 23 25 rfl<|qM rfl<|qA rfl<|Nl<|Wq<|qW 29 32 rfl<|qM rfl<|Od rfl rfl (LO.len rfl rfl ty22)<|qA rfl<|Nl<|Wq<|W.joinK (α:=Nat) 2 (fun x=>[(2,.own 0 0),(5,.osl 1 0 k 1),(7,.base (.int .i64 (x:Int)))]) (fun x=>up (up mt 0 (some ([.base (.int .i64 p.asn),.base (.bool p.n4),.base (.bool p.n6),.base (.bool p.hol),.base (.int .i64 p.hops),.isl p.dc p.dn,.isl (prsC p.pr) p.pr.length]))) 1 (some (natsC S))) (fun x=>insP c S k k=x) (.cons (t:=1) rfl (by exact .inl rfl) (.cons (t:=6) rfl (by exact .inl rfl) (.cons (t:=12) rfl (by exact .inl rfl) (.cons (t:=13) rfl (by exact .inl rfl) .nil)))) ?_ ?_
  rotate_left
  rintro q hIJ
  try (dsimp only at hIJ)
  try dsimp only [joinT,baseT,List.cons_append,List.nil_append]
  rotate_right
  ·
   refine Wb<|W.loop_keep (α:=Nat) (fun x=>x) 2 (fun x=>[(2,.own 0 0),(5,.osl 1 0 k 1),(7,.base (.int .i64 (x:Int)))]) (fun x=>up (up mt 0 (some ([.base (.int .i64 p.asn),.base (.bool p.n4),.base (.bool p.n6),.base (.bool p.hol),.base (.int .i64 p.hops),.isl p.dc p.dn,.isl (prsC p.pr) p.pr.length]))) 1 (some (natsC S))) (fun x=>x≤k∧insP c S k k=insP c S k x) k [(0,0),(1,1)] (.cons (t:=1) rfl (by exact .inl rfl) (.cons (t:=6) rfl (by exact .inl rfl) (.cons (t:=12) rfl (by exact .inl rfl) (.cons (t:=13) rfl (by exact .inl rfl) .nil)))) (show k≤k∧insP c S k k=insP c S k k from ⟨Nat.le_refl _,rfl⟩) (by decide) ?_ ?_ ?_
   ·exact lC (lI rfl) (lC (lI rfl) (lC (lR rfl) lN))
   ·exact aU (kP rfl (natsC_pure _)) (aU (kR rfl) aM)
   rintro j hIB ihB
   try (dsimp only at hIB)
   try dsimp only [baseT,List.cons_append,List.nil_append]
   obtain ⟨hj,hpos⟩:=hIB
   match j,hj,hpos with
   | 0,hj,hpos =>
    have g2:decide ((0:Int) < ((0:Nat):Int))=false:=by decide
    refine Wq<|Wq<|qW 36 38 rfl<|qM rfl<|qGt rfl<|Nl<|Wo rfl rfl<|Wx ?_
    clear ihB
    intro yJ KJ hJ
    refine W.renameJ [(0,0),(1,1)] 2 (by decide) ?_ ?_ (hJ 0 (show insP c S k k=0 from hpos))
    ·exact lC (lI rfl) (lC (lI rfl) (lC (lR rfl) (lC (lR rfl) (lC (lR rfl) (lC (lR rfl) (lC (lR rfl) lN))))))
    ·exact aU (kP rfl (natsC_pure _)) (aU (kR rfl) aM)
   | j + 1,hj,hpos =>
    have g2:decide ((0:Int) < ((j + 1:Nat):Int))=true:=decide_eq_true (by omega)
    have he:((j + 1:Nat):Int) - 1=(j:Int):=by omega
    have hjl:j < S.length:=by omega
    have hy:S[j] < n:=by have:=hSm S[j] (List.getElem_mem hjl);omega
    have a2:=nats_at hjl
    have hcc:=hcmp k S[j] hc hy
    have t1:=hgt k hc
    have t2:=hgt S[j] hy
    have hstep:insP c S k (j + 1)=if c k S[j] < 0 then insP c S k j else j + 1:=by
     show (if c k (S.getD j 0) < 0 then _ else _)=_
     rw [show S.getD j 0=S[j] from by simp [hjl]]
    rw [hce] at hstep
    generalize S[j]=y at *
    generalize gR l k=ra at *
    generalize gR l y=rb at *
    generalize cmpF p ra rb=cf at *
    by_cases hlt:cf.1 < 0
    ·rw [if_pos hlt] at hstep
     have g3:decide (0≤cf.1)=false:=decide_eq_false (by omega)
     refine Wq<|Wq<|qW 36 38 rfl<|qM rfl<|qGt rfl<|Nl<|Wt rfl ‹_›<|Wu<|Wb<|Wq<|Wq<|Wd 42 61 (by decide) rfl mixed rfl<|qG rfl ty27 rfl (Tl rfl)<|qM rfl<|qM rfl<|qJ rfl rfl ty29 ty54 (by omega)<|Od rfl rfl (Lg rfl rfl ty54 rfl t1)<|qM rfl<|qM rfl<|qM rfl<|Od rfl rfl (LO.sub_in rfl rfl rfl (iW _ (by omega)))<|Od rfl rfl (Ia rfl rfl rfl he ty22 ty3 (by omega))<|Od rfl rfl (Ld rfl rfl rfl a2 ty3 rfl)<|qJ rfl rfl ty29 ty54 (by omega)<|Od rfl rfl (Lg rfl rfl ty54 rfl t2)<|qY rfl (hcc) fok16 rfl<|qM rfl<|qX rfl<|qX rfl<|qA rfl<|qA rfl<|Nl ⟨by kernel_rfl,(Wq<|qW 65 67 rfl<|qM rfl<|qGe rfl<|Nl<|Wo rfl ‹_›<|Wu<|qW 71 74 rfl<|qM rfl<|Od rfl rfl (LO.sub_in rfl rfl rfl (iW _ (by omega)))<|qA rfl<|Nl ?_)⟩
     rw [he]
     refine WL.renameL [(0,0),(1,1)] 2 (by decide) ?_ ?_ (ihB j (show j < (j + 1) from by omega) (show j≤k∧insP c S k k=insP c S k j from ⟨by omega,hpos.trans hstep⟩))
     ·exact lC (lI rfl) (lC (lI rfl) (lC (lR rfl) (lC (lR rfl) (lC (lR rfl) (lC (lR rfl) (lC (lR rfl) lN))))))
     ·exact aU (kP rfl (natsC_pure _)) (aU (kR rfl) aM)
    ·rw [if_neg hlt] at hstep
     have g3:decide (0≤cf.1)=true:=decide_eq_true (by omega)
     refine Wq<|Wq<|qW 36 38 rfl<|qM rfl<|qGt rfl<|Nl<|Wt rfl ‹_›<|Wu<|Wb<|Wq<|Wq<|Wd 42 61 (by decide) rfl mixed rfl<|qG rfl ty27 rfl (Tl rfl)<|qM rfl<|qM rfl<|qJ rfl rfl ty29 ty54 (by omega)<|Od rfl rfl (Lg rfl rfl ty54 rfl t1)<|qM rfl<|qM rfl<|qM rfl<|Od rfl rfl (LO.sub_in rfl rfl rfl (iW _ (by omega)))<|Od rfl rfl (Ia rfl rfl rfl he ty22 ty3 (by omega))<|Od rfl rfl (Ld rfl rfl rfl a2 ty3 rfl)<|qJ rfl rfl ty29 ty54 (by omega)<|Od rfl rfl (Lg rfl rfl ty54 rfl t2)<|qY rfl (hcc) fok16 rfl<|qM rfl<|qX rfl<|qX rfl<|qA rfl<|qA rfl<|Nl ⟨by kernel_rfl,(Wq<|qW 65 67 rfl<|qM rfl<|qGe rfl<|Nl<|Wt rfl ‹_›<|Wx ?_)⟩
     clear ihB
     intro yJ KJ hJ
     refine W.renameJ [(0,0),(1,1)] 2 (by decide) ?_ ?_ (hJ (j + 1) (show insP c S k k=(j + 1) from hpos.trans hstep))
     ·exact lC (lI rfl) (lC (lI rfl) (lC (lR rfl) (lC (lR rfl) (lC (lR rfl) (lC (lR rfl) (lC (lR rfl) lN))))))
     ·exact aU (kP rfl (natsC_pure _)) (aU (kR rfl) aM)
  have hqk:q≤k:=by rw [← hIJ];exact insP_le c S k k
  rw [hIJ] at hnext
  have hdT:=nats_drop (S:=S) (q:=q) hSl
  have htT:=nats_take (S:=S) hSl hqk
  have hrT:=nats_tk (l:=S.drop q) (n:=k - q) (by rw [List.length_drop,hSl])
  have hmT:=nats_tk (l:=S.take q++[k]) (n:=q + 1) (by rw [List.length_append,List.length_take,hSl];simp;omega)
  rw [natsC_app] at hmT
  have hdl:(natsC (S.drop q)).length=k - q:=by rw [natsC_len,List.length_drop,hSl]
  refine Wq<|qW 78 83 rfl<|qM rfl<|qM rfl<|Od rfl rfl (LO.slice rfl rfl (Ba rfl rfl) Bnd.no (by omega) (by omega) ty22 ty3)<|Od rfl rfl (Lan rfl rfl (Sso rfl rfl hdT) ty22 ty22 ty3 (by decide) (by omega) (by omega) (by decide))<|qA rfl<|Nl<|qW 87 96 rfl<|qM rfl<|qM rfl<|Od rfl rfl (LO.slice rfl rfl Bnd.no (Ba rfl rfl) (by omega) (by omega) ty22 ty3)<|qM rfl<|Od rfl rfl (LO.buildSlice rfl ty22 ty3 (by decide) (by decide) (.cons rfl rfl rfl rfl (Sl rfl) .nil))<|Od rfl rfl (Lap rfl rfl (Sso rfl rfl (Tl rfl)) rfl htT ty22 ty22 ty3 (by decide) (by omega) (by omega) (by decide))<|qM rfl<|Od rfl rfl (Lap rfl rfl (Sso rfl rfl hrT) rfl hmT ty22 ty22 ty3 (by decide) (by omega) (by omega) (by decide))<|qA rfl<|Nl ?_
  rw [show natsC (S.take q)++natsC [k]++natsC (S.drop q)=natsC (isortN c (k + 1)) from by rw [hnext,natsC_app,show k::S.drop q=[k]++S.drop q from rfl,natsC_app,List.append_assoc],show q - 0 + 1 + (k - q)=k + 1 from by omega]
  refine qW 100 102 rfl<|qZ rfl (iW _ (by omega))<|qM rfl<|Nl<|WL.renameL [(0,0),(1,94)] 2 (by decide) ?_ ?_ (ihA (k + 1) (show n - (k + 1) < n - k from by omega) (show (k + 1)≤n from by omega))
  ·exact lC (lI rfl) (lC (lI rfl) (lC (lR rfl) (lC (lR rfl) (lC (lR rfl) lN))))
  ·exact aU (kP rfl (natsC_pure _)) (aU (kR rfl) aM)
 ·have g1:decide ((k:Int) < (n:Int))=false:=decide_eq_false (by omega)
  obtain rfl:k=n:=by omega
  refine Wq<|qW 18 19 rfl<|qK rfl<|Nl<|Wq<|Wo rfl ‹_›<|Wx ?_
  clear ihA
  refine Wq<|qW 106 108 rfl<|qM rfl<|qA rfl<|Nl<|Wy (t:=4) rfl rfl (nats_tk (isortN_len c _)) (natsC_pure _)<|Wz ⟨.inl rfl,_,mt,Rc (Rt0 rfl) (Rv),aM,?_⟩
  exact ⟨rfl,rfl⟩
end Go.Proofs.Ythbegdeojkdlbaa
