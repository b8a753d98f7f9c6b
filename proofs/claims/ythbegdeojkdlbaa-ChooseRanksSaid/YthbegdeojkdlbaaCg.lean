/-
  The document's comparison; the best of several; lists of routes.
-/
import Derived.Test.YthbegdeojkdlbaaCf
import Derived.Test.YthbegdeojkdlbaaMab
namespace Go.Proofs.Ythbegdeojkdlbaa
open Go.RowKit
theorem ints_at {l:List Int} {i:Nat} (h:i < l.length):(intsC l)[0 + i * 1]?=some (.base (.int .i64 (l.getD i 0))):=by
 simp [intsC,List.getD,h]
theorem Sp.of_all {cs ns:List AV} (h:ns.length=cs.length):Sp cs 0 ns ns:=⟨by omega,h,fun j c hj=>.inl ⟨Nat.zero_le _,by simpa using hj⟩⟩
theorem intsC5 {l:List Int} (h:l.length=5):(intsC l).length=5:=by rw [intsC_len,h]
set_option maxHeartbeats 2000000 in
theorem rcompare_any (p:Po) (a b:Rt) (hp:p.pr.length≤1000) (hp2:∀ x∈p.pr,-10≤x.2∧x.2≤10) (ha:OkR a) (hb:OkR b):AFn Try.prog 16 0 [.agg (poC p),.agg (rtC a),.agg (rtC b)] mt (cmpV (cmpF p a b)) mt:=by
 refine AFn.eq Try.func16 rfl rfl (Nat.le_of_ble_eq_true rfl) ?_
 have k1:=key_any p a hp hp2 ha
 have k2:=key_any p b hp hp2 hb
 unfold cmpF
 rw [ords_key]
 obtain ⟨X,hX,hXl⟩:∃ X,keyL p a=X∧X.length=5:=⟨_,rfl,rfl⟩
 obtain ⟨Y,hY,hYl⟩:∃ Y,keyL p b=Y∧Y.length=5:=⟨_,rfl,rfl⟩
 rw [hX] at k1 ⊢
 rw [hY] at k2 ⊢
 obtain ⟨R,hR⟩:∃ R,fnz (List.zipWith sgn3 X Y) 0=R:=⟨_,rfl⟩
 rw [hR]
 have hXc:=intsC5 hXl
 have hYc:=intsC5 hYl
 obtain ⟨pa,fa,aa⟩:=a
 obtain ⟨pb,fb,ab⟩:=b
 unfold poC at k1 k2 ⊢
 rw [rt_lit] at k1 k2 ⊢
 rw [rt_lit]
 refine Wq<|qW 0 5 rfl<|qC rfl<|qC rfl<|qC rfl<|qA rfl<|qA rfl<|Nl<|Wq<|Wd 9 19 (by decide) rfl mixed rfl<|qG rfl ty27 rfl (Tl rfl)<|qG rfl ty54 rfl (Tl rfl)<|Od rfl rfl (C0 (fr:=[]) rfl rfl (k1) fok26 (.cons rfl (.pure rfl) (.cons rfl (.pure rfl) .nil)) (intsC_pure _))<|qG rfl ty27 rfl (Tl rfl)<|qG rfl ty54 rfl (Tl rfl)<|Od rfl rfl (C0 (fr:=[]) rfl rfl (k2) fok26 (.cons rfl (.pure rfl) (.cons rfl (.pure rfl) .nil)) (intsC_pure _))<|qB rfl ty69<|qB rfl ty69<|On rfl rfl (Sr rfl rfl rfl rfl rfl ty69 hXc (by decide) (Sp.of_all hXc))<|On rfl rfl (Sr rfl rfl rfl rfl rfl ty69 hYc (by decide) (Sp.of_all hYc))<|Nl ⟨by kernel_rfl,(Wq<|Wq<|qW 23 24 rfl<|qM rfl<|Nl<|Wb<|W.loop_keep (α:=Nat) (fun x=>5 - x) 2 (fun x=>[(8,.own 0 0),(9,.own 1 0),(17,.base (.int .i64 (x:Int)))]) (fun x=>up (up mt 0 (some (intsC X))) 1 (some (intsC Y))) (fun x=>x≤5∧fnz ((List.zipWith sgn3 X Y).drop x) (x:Int)=R) 0 [(0,15),(1,16)] .nil (show 0≤5∧fnz ((List.zipWith sgn3 X Y).drop 0) (0:Int)=R from ⟨Nat.zero_le _,hR⟩) (by decide) ?_ ?_ ?_)⟩
 ·exact lC (lI rfl) (lC (lI rfl) (lC (lR rfl) lN))
 ·exact aU (kP rfl (intsC_pure _)) (aU (kP rfl (intsC_pure _)) aM)
 rintro i hIA ihA
 try (dsimp only at hIA)
 try dsimp only [baseT,List.cons_append,List.nil_append]
 obtain ⟨hi,hr⟩:=hIA
 have hzl:(List.zipWith sgn3 X Y).length=5:=by simp [hXl,hYl]
 by_cases hc:i < 5
 rotate_left
 ·have g1:decide ((i:Int) < 5)=false:=decide_eq_false (by omega)
  have h0:R=(0,0):=by rw [← hr,List.drop_eq_nil_of_le (by omega)];rfl
  refine Wq<|qW 28 29 rfl<|qK rfl<|Nl<|Wq<|Wo rfl ‹_›<|Wx<|Wq<|qW 83 85 rfl<|qA rfl<|qA rfl<|Nl<|Wz ⟨.inl rfl,_,mt,(Rc (Rt0 rfl) (Rc (Rt0 rfl) Rv)),aM,?_⟩
  exact ⟨by rw [h0];rfl,rfl⟩
 have g1:decide ((i:Int) < 5)=true:=decide_eq_true (by omega)
 have hii:(i:Int) + 1=((i + 1:Nat):Int):=by omega
 have hx:=ints_at (l:=X) (i:=i) (by omega)
 have hy:=ints_at (l:=Y) (i:=i) (by omega)
 have hd:(List.zipWith sgn3 X Y).drop i=sgn3 (X.getD i 0) (Y.getD i 0)::(List.zipWith sgn3 X Y).drop (i + 1):=by
  rw [List.drop_eq_getElem_cons (by omega)]
  simp [List.getD,show i < X.length by omega,show i < Y.length by omega]
 obtain ⟨x,hxe⟩:∃ x,X.getD i 0=x:=⟨_,rfl⟩
 obtain ⟨y,hye⟩:∃ y,Y.getD i 0=y:=⟨_,rfl⟩
 rw [hxe] at hx hd
 rw [hye] at hy hd
 rw [hd] at hr
 unfold fnz sgn3 at hr
 refine Wq<|qW 28 29 rfl<|qK rfl<|Nl<|Wq<|Wt rfl ‹_›<|Wu<|Wq<|Wb<|Wq<|qW 33 35 rfl<|qM rfl<|qA rfl<|Nl<|Wq<|Wq<|Wd 39 46 (by decide) rfl mixed rfl<|qM rfl<|Od rfl rfl (Ir rfl rfl rfl rfl ty69 ty3 (by omega))<|Od rfl rfl (Ld rfl rfl rfl hx ty3 rfl)<|qM rfl<|Od rfl rfl (Ir rfl rfl rfl rfl ty69 ty3 (by omega))<|Od rfl rfl (Ld rfl rfl rfl hy ty3 rfl)<|qK rfl<|Nl ⟨by kernel_rfl,?_⟩
 by_cases c1:x < y
 ·have g2:decide (x < y)=true:=decide_eq_true c1
  rw [if_pos c1,if_neg (by decide)] at hr
  refine Wt rfl ‹_›<|Wq<|qW 50 54 rfl<|qM rfl<|qZ rfl (iW _ (by omega))<|qA rfl<|qA rfl<|Nl<|Wz ⟨.inl rfl,_,mt,(Rc (Rt0 rfl) (Rc (Rt0 rfl) Rv)),aM,?_⟩
  exact ⟨by rw [← hr];rfl,rfl⟩
 have g2:decide (x < y)=false:=decide_eq_false c1
 rw [if_neg c1] at hr
 refine Wo rfl ‹_›<|Wu<|Wq<|Wd 58 65 (by decide) rfl mixed rfl<|qM rfl<|Od rfl rfl (Ir rfl rfl rfl rfl ty69 ty3 (by omega))<|Od rfl rfl (Ld rfl rfl rfl hx ty3 rfl)<|qM rfl<|Od rfl rfl (Ir rfl rfl rfl rfl ty69 ty3 (by omega))<|Od rfl rfl (Ld rfl rfl rfl hy ty3 rfl)<|qGt rfl<|Nl ⟨by kernel_rfl,?_⟩
 by_cases c2:y < x
 ·have g3:decide (x > y)=true:=decide_eq_true c2
  rw [if_pos c2,if_neg (by decide)] at hr
  refine Wt rfl ‹_›<|Wq<|qW 69 73 rfl<|qM rfl<|qZ rfl (iW _ (by omega))<|qA rfl<|qA rfl<|Nl<|Wz ⟨.inl rfl,_,mt,(Rc (Rt0 rfl) (Rc (Rt0 rfl) Rv)),aM,?_⟩
  exact ⟨by rw [← hr];rfl,rfl⟩
 have g3:decide (x > y)=false:=decide_eq_false c2
 rw [if_neg c2,if_pos rfl,hii] at hr
 refine Wo rfl ‹_›<|Wu<|qW 77 79 rfl<|qZ rfl (iW _ (by omega))<|qM rfl<|Nl ?_
 rw [hii]
 refine WL.renameL [(0,0),(1,1)] 2 (by decide) ?_ ?_ (ihA (i + 1) (show 5 - (i + 1) < 5 - i from by omega) (show (i + 1)≤5∧fnz ((List.zipWith sgn3 X Y).drop (i + 1)) ((i + 1):Int)=R from ⟨by omega,hr⟩))
 ·exact lC (lI rfl) (lC (lI rfl) (lC (lR rfl) lN))
 ·exact aU (kP rfl (intsC_pure _)) (aU (kP rfl (intsC_pure _)) aM)
def zAt:At:=⟨0,[],⟨false,0,0⟩,0,0,0,[],0,[],0,[],0⟩
def zRt:Rt:=⟨⟨false,0,0,0⟩,0,zAt⟩
def gR (l:List Rt) (i:Nat):Rt:=l.getD i zRt
theorem gR_at {l:List Rt} {i:Nat} (h:i < l.length):gR l i=l[i]:=by simp [gR,h]
theorem gR_tk {l:List Rt} {i:Nat} (h:i < l.length):Tk (rtsC l) (i * 16) 16 (rtC (gR l i)):=by
 have:=rts_at h
 rw [Nat.zero_add] at this
 rw [gR_at h]
 exact this
def bestK (p:Po) (l:List Rt):Nat→Nat
 | 0=>0
 | k + 1=>if (cmpF p (gR l k) (gR l (bestK p l k))).1 < 0 then k else bestK p l k
theorem bestK_lt (p:Po) (l:List Rt):∀ k,bestK p l (k + 1)≤k:=by
 intro k
 induction k with
 | zero=>unfold bestK;split<;>simp [bestK]
 | succ k ih=>unfold bestK;split<;>omega
theorem po_lit (p:Po):poC p=[.base (.int .i64 p.asn),.base (.bool p.n4),.base (.bool p.n6),.base (.bool p.hol),.base (.int .i64 p.hops),.isl p.dc p.dn,.isl (prsC p.pr) p.pr.length]:=rfl
set_option maxHeartbeats 2000000 in
theorem best_any (p:Po) (l:List Rt) (hp:p.pr.length≤1000) (hl:l.length≤1000) (ho:∀ r∈l,OkR r):AFn Try.prog 7 0 [.agg (poC p),.isl (rtsC l) l.length] mt (.tup [.base (.int .i64 (bestK p l l.length:Nat)),.base (.bool (decide (l.length≠0)))]) mt:=by
 refine AFn.eq Try.func7 rfl rfl (Nat.le_of_ble_eq_true rfl) ?_
 by_cases h0:l.length=0
 ·have g1:((l.length:Int) == 0)=true:=by rw [h0];rfl
  refine Wq<|qW 0 3 rfl<|qC rfl<|qA rfl<|qA rfl<|Nl<|Wq<|Wq<|qW 7 10 rfl<|qM rfl<|qH rfl ty29<|qE rfl<|Nl<|Wt rfl ‹_›<|Wq<|qW 14 16 rfl<|qA rfl<|qA rfl<|Nl<|Wz ⟨.inl rfl,_,mt,(Rc (Rt0 rfl) (Rc (Rt0 rfl) Rv)),aM,?_⟩
  exact ⟨by rw [h0];rfl,rfl⟩
 have g1:((l.length:Int) == 0)=false:=by rw [beq_eq_false_iff_ne];omega
 rw [po_lit]
 refine Wq<|qW 0 3 rfl<|qC rfl<|qA rfl<|qA rfl<|Nl<|Wq<|Wq<|qW 7 10 rfl<|qM rfl<|qH rfl ty29<|qE rfl<|Nl<|Wo rfl ‹_›<|Wu<|Wq<|qW 20 21 rfl<|qA rfl<|Nl<|Wq<|Wq<|qW 25 28 rfl<|qM rfl<|qH rfl ty29<|qM rfl<|Nl<|Wb<|W.loop_keep (α:=Nat × Nat) (fun x=>l.length - x.1) 1 (fun x=>[(2,.own 0 0),(6,.base (.int .i64 (x.2:Int))),(15,.base (.int .i64 (x.1:Int)))]) (fun x=>up mt 0 (some ([.base (.int .i64 p.asn),.base (.bool p.n4),.base (.bool p.n6),.base (.bool p.hol),.base (.int .i64 p.hops),.isl p.dc p.dn,.isl (prsC p.pr) p.pr.length]))) (fun x=>x.1≤l.length∧bestK p l x.1=x.2) (0,0) [(0,0)] (.cons (t:=1) rfl (by exact .inl rfl) (.cons (t:=14) rfl (by exact .inl rfl) .nil)) (show 0≤l.length∧bestK p l 0=0 from ⟨Nat.zero_le _,rfl⟩) (by decide) ?_ ?_ ?_
 ·exact lC (lI rfl) (lC (lR rfl) (lC (lR rfl) lN))
 ·exact aU (kR rfl) aM
 rintro ⟨i,bi⟩ hIA ihA
 try (dsimp only at hIA)
 try dsimp only [baseT,List.cons_append,List.nil_append]
 obtain ⟨hi,hbie⟩:=hIA
 by_cases hc:i < l.length
 rotate_left
 ·have g2:decide ((i:Int) < (l.length:Int))=false:=decide_eq_false (by omega)
  have he:i=l.length:=by omega
  refine Wq<|qW 32 33 rfl<|qK rfl<|Nl<|Wq<|Wo rfl ‹_›<|Wx<|Wq<|qW 80 83 rfl<|qM rfl<|qA rfl<|qA rfl<|Nl<|Wz ⟨.inl rfl,_,mt,(Rc (Rt0 rfl) (Rc (Rt0 rfl) Rv)),aM,?_⟩
  exact ⟨by rw [← hbie,he,show decide (l.length≠0)=true from decide_eq_true h0];rfl,rfl⟩
 have g2:decide ((i:Int) < (l.length:Int))=true:=decide_eq_true (by omega)
 have hii:(i:Int) + 1=((i + 1:Nat):Int):=by omega
 have hbi:bestK p l i < l.length:=by
  cases i with
  | zero=>show 0 < l.length;omega
  | succ i=>have:=bestK_lt p l i;omega
 have hc1:=compare_any p (gR l i) (gR l (bestK p l i)) hp (by rw [gR_at hc];exact ho _ (List.getElem_mem _)) (by rw [gR_at hbi];exact ho _ (List.getElem_mem _))
 have hb2:bestK p l (i + 1)=if (cmpF p (gR l i) (gR l (bestK p l i))).1 < 0 then i else bestK p l i:=rfl
 have t1:=gR_tk hc
 have t2:=gR_tk hbi
 unfold cmpV at hc1
 rw [hbie] at hc1 hb2 hbi t2
 obtain ⟨cx,hcx⟩:∃ cx,(cmpF p (gR l i) (gR l bi)).1=cx:=⟨_,rfl⟩
 rw [hcx] at hc1 hb2
 refine Wq<|qW 32 33 rfl<|qK rfl<|Nl<|Wq<|Wt rfl ‹_›<|Wu<|Wq<|Wb<|Wq<|qW 37 39 rfl<|qM rfl<|qA rfl<|Nl<|Wq<|Wd 43 58 (by decide) rfl mixed rfl<|qG rfl ty27 rfl (Tl rfl)<|qM rfl<|qM rfl<|qJ rfl rfl ty29 ty54 (by omega)<|Od rfl rfl (Lg rfl rfl ty54 rfl t1)<|qM rfl<|qM rfl<|qJ rfl rfl ty29 ty54 (by omega)<|Od rfl rfl (Lg rfl rfl ty54 rfl t2)<|Od rfl rfl (C0 (fr:=[]) rfl rfl (hc1) fok15 (.cons rfl (.pure rfl) (.cons rfl (.pure (rtC_pure (gR l i))) (.cons rfl (.pure (rtC_pure (gR l bi))) .nil))) rfl)<|qM rfl<|qX rfl<|qX rfl<|qA rfl<|qA rfl<|Nl ⟨by kernel_rfl,(Wq<|qW 62 64 rfl<|qM rfl<|qK rfl<|Nl ?_)⟩
 by_cases c1:cx < 0
 ·have g3:decide (cx < 0)=true:=decide_eq_true c1
  rw [if_pos c1] at hb2
  refine Wt rfl ‹_›<|qW 68 70 rfl<|qM rfl<|qA rfl<|Nl<|qW 74 76 rfl<|qZ rfl (iW _ (by omega))<|qM rfl<|Nl ?_
  rw [hii]
  refine WL.renameL [(0,0)] 1 (by decide) ?_ ?_ (ihA ((i + 1),i) (show l.length - (i + 1) < l.length - i from by omega) (show (i + 1)≤l.length∧bestK p l (i + 1)=i from ⟨by omega,hb2⟩))
  ·exact lC (lI rfl) (lC (lR rfl) (lC (lR rfl) (lC (lR rfl) (lC (lR rfl) lN))))
  ·exact aU (kR rfl) aM
 ·have g3:decide (cx < 0)=false:=decide_eq_false c1
  rw [if_neg c1] at hb2
  refine Wo rfl ‹_›<|Wu<|qW 74 76 rfl<|qZ rfl (iW _ (by omega))<|qM rfl<|Nl ?_
  rw [hii]
  refine WL.renameL [(0,0)] 1 (by decide) ?_ ?_ (ihA ((i + 1),bi) (show l.length - (i + 1) < l.length - i from by omega) (show (i + 1)≤l.length∧bestK p l (i + 1)=bi from ⟨by omega,hb2⟩))
  ·exact lC (lI rfl) (lC (lR rfl) (lC (lR rfl) (lC (lR rfl) (lC (lR rfl) lN))))
  ·exact aU (kR rfl) aM
end Go.Proofs.Ythbegdeojkdlbaa
