/-
  FabricValid: its law.
-/
import Derived.Test.YtneidpjkboaejaaVa
import Derived.Test.YtneidpjkboaejaaFx
import Derived.Test.YtneidpjkboaejaaFg
import Derived.Test.YtneidpjkboaejaaMab
namespace Go.Proofs.Ytneidpjkboaejaa
open Go.RowKit
theorem fab3 {a b c:List AV} {n:Nat} (ha:a.length=n) (hb:b.length=n) (hc:c.length=n) {i:Nat} (hi:i < 3):Tk (a++b++c) (i * n) n ([a,b,c].getD i a):=by
 match i,hi with
 | 0,_ =>
  refine ⟨ha,fun j x hj=>?_⟩
  replace hj:a[j]?=some x:=hj
  have hl:=(List.getElem?_eq_some_iff.1 hj).1
  rw [Nat.zero_mul,Nat.zero_add,List.append_assoc,List.getElem?_append_left hl]
  exact hj
 | 1,_ =>
  refine ⟨hb,fun j x hj=>?_⟩
  replace hj:b[j]?=some x:=hj
  have hl:=(List.getElem?_eq_some_iff.1 hj).1
  rw [Nat.one_mul,List.append_assoc,List.getElem?_append_right (by omega),List.getElem?_append_left (by rw [ha,Nat.add_sub_cancel_left];exact hl),ha,Nat.add_sub_cancel_left]
  exact hj
 | 2,_ =>
  refine ⟨hc,fun j x hj=>?_⟩
  replace hj:c[j]?=some x:=hj
  rw [List.getElem?_append_right (by rw [List.length_append];omega),List.length_append,ha,hb,show 2 * n + j - (n + n)=j from by omega]
  exact hj
theorem FabOK.val {f:Fab} (h:FabOK f):validB f=true:=by
 have h1:=h.sw1
 have h2:=h.sw7
 have h3:=h.nlinks
 have h4:=h.down
 have h5:=h.dead
 unfold validB sizeB
 rw [Bool.and_eq_true,List.all_eq_true]
 refine ⟨fun x hx=>?_,by simp only [Bool.and_eq_true,decide_eq_true_eq];omega⟩
 obtain ⟨q1,q2,q3,q4,q5,q6,q7⟩:=h.links x hx
 unfold lnkB
 simp only [Bool.and_eq_true,decide_eq_true_eq,Bool.not_eq_true',beq_eq_false_iff_ne,ne_eq]
 omega
set_option maxHeartbeats 4000000 in
theorem valid_law (raw:Fab) (l:List Int) (which by_ link:Int) (hl:l.length≤9223372036854775807):AFn Try.prog 3 0 [.agg (fabC raw),.isl (l.map fun z=>.base (.int .i64 z)) l.length,.base (.int .i64 which),.base (.int .i64 by_),.base (.int .i64 link)] mt (.base (.bool true)) mt:=by
 refine AFn.eq Try.func3 rfl rfl (Nat.le_of_ble_eq_true rfl) ?_
 have hawk:=awake13_any
 obtain ⟨rsw,rls,rds,res⟩:=raw
 unfold fabC
 dsimp only
 by_cases c1:rls.length≤40
 rotate_left
 ·have k1:decide ((40:Int) < (rls.length:Int))=true:=decide_eq_true (by omega)
  refine Wq<|qW 0 2 rfl<|qC rfl<|qA rfl<|Nl<|Wq<|Wq<|qW 6 22 rfl<|qF rfl ty25 rfl<|qL rfl ty22 rfl<|qH rfl ty22<|qGt rfl<|qM rfl<|qD rfl ‹_› rfl<|qD rfl ‹_› rfl<|qD rfl ‹_› rfl<|qD rfl ‹_› rfl<|qT rfl ‹_› rfl<|qM rfl<|qD rfl rfl rfl<|qD rfl rfl rfl<|qD rfl rfl rfl<|qD rfl rfl rfl<|qT rfl rfl rfl<|Nl<|Wt rfl rfl<|Wq<|qW 26 28 rfl<|qY rfl (hawk) fok4 rfl<|qA rfl<|Nl<|Wz ⟨.inl rfl,_,mt,Rc (Rt0 rfl) (Rv),aM,?_⟩
  exact ⟨rfl,rfl⟩
 have k1:decide ((40:Int) < (rls.length:Int))=false:=decide_eq_false (by omega)
 by_cases c2:rds.length≤60
 rotate_left
 ·have k2:decide ((60:Int) < (rds.length:Int))=true:=decide_eq_true (by omega)
  refine Wq<|qW 0 2 rfl<|qC rfl<|qA rfl<|Nl<|Wq<|Wq<|qW 6 22 rfl<|qF rfl ty25 rfl<|qL rfl ty22 rfl<|qH rfl ty22<|qGt rfl<|qM rfl<|gF rfl ‹_› ty25 rfl<|gL rfl ‹_› ty23 rfl<|gH rfl ‹_› ty23<|gGt rfl ‹_›<|qP rfl ‹_› rfl<|qM rfl<|qD rfl ‹_› rfl<|qD rfl ‹_› rfl<|qD rfl ‹_› rfl<|qD rfl ‹_› rfl<|qT rfl ‹_› rfl<|Nl<|Wt rfl rfl<|Wq<|qW 26 28 rfl<|qY rfl (hawk) fok4 rfl<|qA rfl<|Nl<|Wz ⟨.inl rfl,_,mt,Rc (Rt0 rfl) (Rv),aM,?_⟩
  exact ⟨rfl,rfl⟩
 have k2:decide ((60:Int) < (rds.length:Int))=false:=decide_eq_false (by omega)
 by_cases c3:res.length≤20
 rotate_left
 ·have k3:decide ((20:Int) < (res.length:Int))=true:=decide_eq_true (by omega)
  refine Wq<|qW 0 2 rfl<|qC rfl<|qA rfl<|Nl<|Wq<|Wq<|qW 6 22 rfl<|qF rfl ty25 rfl<|qL rfl ty22 rfl<|qH rfl ty22<|qGt rfl<|qM rfl<|gF rfl ‹_› ty25 rfl<|gL rfl ‹_› ty23 rfl<|gH rfl ‹_› ty23<|gGt rfl ‹_›<|qP rfl ‹_› rfl<|qM rfl<|gF rfl ‹_› ty25 rfl<|gL rfl ‹_› ty23 rfl<|gH rfl ‹_› ty23<|gGt rfl ‹_›<|qP rfl ‹_› rfl<|Nl<|Wt rfl ‹_›<|Wq<|qW 26 28 rfl<|qY rfl (hawk) fok4 rfl<|qA rfl<|Nl<|Wz ⟨.inl rfl,_,mt,Rc (Rt0 rfl) (Rv),aM,?_⟩
  exact ⟨rfl,rfl⟩
 have k3:decide ((20:Int) < (res.length:Int))=false:=decide_eq_false (by omega)
 have hnew:=new_any l
 obtain ⟨_,_,hfab,f,a1,⟨hfok,_⟩,rfl,rfl⟩:=fabric_any l 0 1 (by decide) (by decide) hl
 obtain ⟨_,_,hbn,g,hg60,rfl,rfl⟩:=bent_any f hfok which by_
 have hf17:=hfok.nlinks
 have hval:=hfok.val
 have hv0:=valid_any f (by omega)
 rw [hval] at hv0
 have hwk:=fun k=>works_any f k
 have hwx:=fun k=>worksX_any f k
 have hm:=mod_any link 25 (by decide) (by decide)
 have hall:∀ i:Nat,i < 3→∃ x:Fab,[fabC ⟨rsw,rls,rds,res⟩,fabC f,fabC g].getD i (fabC ⟨rsw,rls,rds,res⟩)=fabC x∧x.links.length≤1000:=fun i hi=>by
  match i,hi with
  | 0,_=>exact ⟨⟨rsw,rls,rds,res⟩,rfl,by dsimp only;omega⟩
  | 1,_=>exact ⟨f,rfl,by omega⟩
  | 2,_=>exact ⟨g,rfl,by omega⟩
 have htk:=fun i hi=>fab3 (a:=fabC ⟨rsw,rls,rds,res⟩) (b:=fabC f) (c:=fabC g) (n:=4) rfl rfl rfl (i:=i) hi
 clear hfok hval hg60
 unfold fabC at hv0 hwk hwx hfab hbn htk
 obtain ⟨sw,ls,ds,es⟩:=f
 obtain ⟨gsw,gls,gds,ges⟩:=g
 dsimp only at *
 generalize link % 25=m25 at *
 refine Wq<|qW 0 2 rfl<|qC rfl<|qA rfl<|Nl<|Wq<|Wq<|qW 6 22 rfl<|qF rfl ty25 rfl<|qL rfl ty22 rfl<|qH rfl ty22<|qGt rfl<|qM rfl<|gF rfl ‹_› ty25 rfl<|gL rfl ‹_› ty23 rfl<|gH rfl ‹_› ty23<|gGt rfl ‹_›<|qP rfl ‹_› rfl<|qM rfl<|gF rfl ‹_› ty25 rfl<|gL rfl ‹_› ty23 rfl<|gH rfl ‹_› ty23<|gGt rfl ‹_›<|qP rfl ‹_› rfl<|Nl<|Wo rfl ‹_›<|Wu<|Wq<|qW 32 37 rfl<|qM rfl<|Od rfl rfl (CN (fr:=[]) rfl rfl (hnew) fok5 (.cons rfl (.pure rfl) .nil) rfl (by decide))<|Od rfl rfl (C1 (fr:=[]) rfl rfl (hfab) fok6 (.own rfl rfl (.cons rfl (.pure rfl) .nil)) rfl rfl rfl (Cn _ _) (by decide) rfl)<|qB rfl ty25<|qS rfl ty25 (Sl rfl) rfl<|Nl<|Wq<|Wq<|Wd 41 50 (by decide) rfl mixed rfl<|qG rfl ty25 rfl (Tl rfl)<|qG rfl ty25 rfl (Tl rfl)<|qG rfl ty25 rfl (Tl rfl)<|qM rfl<|qM rfl<|qY rfl (hbn) fok7 rfl<|Od rfl rfl (LO.buildSlice rfl ty32 ty25 (by decide) (by decide) (.cons rfl rfl rfl rfl (Sl rfl) (.cons rfl rfl rfl rfl (Sl rfl) (.cons rfl rfl rfl rfl (Sl rfl) .nil))))<|Od rfl rfl (LO.len rfl rfl ty32)<|qM rfl<|Nl ⟨by kernel_rfl,(Wy (t:=42) rfl rfl (Tl rfl) rfl<|Wb<|W.loop_keep (α:=Nat) (fun x=>3 - x) 1 (fun x=>[(11,.own 0 0),(44,.base (.int .i64 (x:Int)))]) (fun x=>up mt 0 (some ([.base (.int .i64 sw),.isl (lnksC ls) ls.length,.isl (boolsC ds) ds.length,.isl (boolsC es) es.length]))) (fun x=>x≤3) 0 [(0,35)] (.cons (t:=4) rfl (by exact .inl rfl) (.cons (t:=42) rfl (by exact .inl rfl) (.cons (t:=43) rfl (by exact .inl rfl) .nil))) (show 0≤3 from Nat.zero_le _) (by decide) ?_ ?_ ?_)⟩
 ·exact lC (lI rfl) (lC (lR rfl) lN)
 ·exact aU (kR rfl) aM
 rintro i hIA ihA
 try (dsimp only at hIA)
 try dsimp only [baseT,List.cons_append,List.nil_append]
 by_cases hc:i < 3
 ·have g1:decide ((i:Int) < 3)=true:=decide_eq_true (by omega)
  obtain ⟨x,hx,hxl⟩:=hall i hc
  have ht:=htk i hc
  unfold fabC at hx
  rw [hx] at ht
  have q1:=valid_any x hxl
  have q2:=validX_any x hxl
  unfold fabC at q1 q2
  generalize validB x=vb at *
  have hne:(!(vb == vb))=false:=by simp
  refine Wq<|qW 54 55 rfl<|qK rfl<|Nl<|Wq<|Wt rfl ‹_›<|Wu<|Wq<|Wb<|Wq<|qW 59 63 rfl<|qJ rfl rfl ty32 ty25 (by omega)<|Od rfl rfl (Lg rfl rfl ty25 rfl ht)<|qB rfl ty25<|qS rfl ty25 (Sl rfl) rfl<|Nl<|Wq<|Wd 67 72 (by decide) rfl mixed rfl<|qG rfl ty25 rfl (Tl rfl)<|qY rfl (q1) fok8 rfl<|qG rfl ty25 rfl (Tl rfl)<|qY rfl (q2) fok9 rfl<|Od rfl rfl (LO.neq_bool rfl rfl rfl ty4)<|Nl ⟨by kernel_rfl,(Wo rfl ‹_›<|Wu<|qW 81 83 rfl<|qZ rfl (iW _ (by omega))<|qM rfl<|Nl<|WL.renameL [(0,0)] 1 (by decide) ?_ ?_ (ihA (i + 1) (show 3 - (i + 1) < 3 - i from by omega) (show (i + 1)≤3 from by omega)))⟩
  ·exact lC (lI rfl) (lC (lR rfl) (lC (lR rfl) (lC (lR rfl) (lC (lR rfl) lN))))
  ·exact aU (kR rfl) aM
 ·have g1:decide ((i:Int) < 3)=false:=decide_eq_false (by omega)
  refine Wq<|qW 54 55 rfl<|qK rfl<|Nl<|Wq<|Wo rfl ‹_›<|Wx ?_
  clear ihA
  refine Wq<|Wq<|qW 87 94 rfl<|qM rfl<|qM rfl<|qY rfl (hm) fok10 rfl<|Od rfl rfl (LO.sub rfl rfl rfl)<|Od rfl rfl (LO.buildSlice rfl ty26 ty3 (by decide) (by decide) (.cons rfl rfl rfl rfl (Sl rfl) (.cons rfl rfl rfl rfl (Sl rfl) .nil)))<|Od rfl rfl (LO.len rfl rfl ty26)<|qM rfl<|Nl<|Wy (t:=58) rfl rfl (Tl rfl) rfl<|Wb<|W.loop_keep (α:=Nat) (fun x=>2 - x) 1 (fun x=>[(11,.own 0 0),(60,.base (.int .i64 (x:Int)))]) (fun x=>up mt 0 (some ([.base (.int .i64 sw),.isl (lnksC ls) ls.length,.isl (boolsC ds) ds.length,.isl (boolsC es) es.length]))) (fun x=>x≤2) 0 [(0,0)] (.cons (t:=58) rfl (by exact .inl rfl) (.cons (t:=59) rfl (by exact .inl rfl) .nil)) (show 0≤2 from Nat.zero_le _) (by decide) ?_ ?_ ?_
  ·exact lC (lI rfl) (lC (lR rfl) lN)
  ·exact aU (kR rfl) aM
  rintro k hIB ihB
  try (dsimp only at hIB)
  try dsimp only [baseT,List.cons_append,List.nil_append]
  by_cases hd:k < 2
  ·have g2:decide ((k:Int) < 2)=true:=decide_eq_true (by omega)
   obtain ⟨z,hz⟩:∃ z,([.base (.int .i64 link),.base (.int .i64 (IntKind.i64.wrap (m25 - 1)))]:List AV)[k * 1]?=some (.base (.int .i64 z)):=by
    match k,hd with
    | 0,_=>exact ⟨_,rfl⟩
    | 1,_=>exact ⟨_,rfl⟩
   have q1:=hwk z
   have q2:=hwx z
   generalize worksB ⟨sw,ls,ds,es⟩ z=wb at *
   have hne:(!(wb == wb))=false:=by simp
   refine Wq<|qW 98 99 rfl<|qK rfl<|Nl<|Wq<|Wt rfl ‹_›<|Wu<|Wq<|Wb<|Wq<|qW 103 106 rfl<|qJ rfl rfl ty26 ty3 (by omega)<|Od rfl rfl (Li rfl rfl hz ty3 rfl)<|qA rfl<|Nl<|Wq<|Wd 110 117 (by decide) rfl mixed rfl<|qG rfl ty25 rfl (Tl rfl)<|qM rfl<|qY rfl (q1) fok11 rfl<|qG rfl ty25 rfl (Tl rfl)<|qM rfl<|qY rfl (q2) fok12 rfl<|Od rfl rfl (LO.neq_bool rfl rfl rfl ty4)<|Nl ⟨by kernel_rfl,(Wo rfl ‹_›<|Wu<|qW 126 128 rfl<|qZ rfl (iW _ (by omega))<|qM rfl<|Nl<|WL.renameL [(0,0)] 1 (by decide) ?_ ?_ (ihB (k + 1) (show 2 - (k + 1) < 2 - k from by omega) (show (k + 1)≤2 from by omega)))⟩
   ·exact lC (lI rfl) (lC (lR rfl) (lC (lR rfl) (lC (lR rfl) lN)))
   ·exact aU (kR rfl) aM
  ·have g2:decide ((k:Int) < 2)=false:=decide_eq_false (by omega)
   refine Wq<|qW 98 99 rfl<|qK rfl<|Nl<|Wq<|Wo rfl ‹_›<|Wx<|Wq<|qW 132 138 rfl<|qG rfl ty25 rfl (Tl rfl)<|qY rfl (hv0) fok8 rfl<|qM rfl<|gY rfl rfl (hawk) fok4 rfl<|qT rfl rfl rfl<|qA rfl<|Nl<|Wz ⟨.inl rfl,_,mt,Rc (Rt0 rfl) (Rv),aM,?_⟩
   exact ⟨rfl,rfl⟩
end Go.Proofs.Ytneidpjkboaejaa
