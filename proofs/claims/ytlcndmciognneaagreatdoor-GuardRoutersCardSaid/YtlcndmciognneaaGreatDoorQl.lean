/-
  The options of a message; what is wrong with a packet ahead of its fixed bytes.
-/
import Derived.Test.YtlcndmciognneaaGreatDoorQk
import Derived.Test.YtlcndmciognneaaGreatDoorMab
namespace Go.Proofs.YtlcndmciognneaaGreatDoor
open Go.RowKit
theorem by_drop {l:List Int} {k n:Nat} (h:l.length=n):Tk (bytesC l) (k * 1) ((n - k) * 1) (bytesC (l.drop k)):=by
 refine ⟨by rw [bytesC_len,List.length_drop];omega,fun j c hj=>?_⟩
 simp only [bytesC,List.map_drop,List.getElem?_drop] at hj
 rw [Nat.mul_one];exact hj
theorem by_part {l:List Int} {k m:Nat} (h:k≤m) (hm:m≤l.length):Tk (bytesC l) (k * 1) ((m - k) * 1) (bytesC ((l.drop k).take (m - k))):=by
 refine ⟨by rw [bytesC_len,List.length_take,List.length_drop];omega,fun j c hj=>?_⟩
 simp only [bytesC,List.map_take,List.map_drop,List.getElem?_take,List.getElem?_drop] at hj
 split at hj
 ·rw [Nat.mul_one];exact hj
 ·cases hj
theorem IsB.drop {l:List Int} (h:IsB l) (k:Nat):IsB (l.drop k):=fun x hx=>h x (List.mem_of_mem_drop hx)
theorem IsB.take {l:List Int} (h:IsB l) (k:Nat):IsB (l.take k):=fun x hx=>h x (List.mem_of_mem_take hx)
theorem Sp.of_all {cs ns:List AV} (h:ns.length=cs.length):Sp cs 0 ns ns:=⟨by omega,h,fun j c hj=>.inl ⟨Nat.zero_le _,by simpa using hj⟩⟩
def optF:Nat→List Int→Int→Bool→List Int→Option (Bool × List Int)
 | 0,_,_,has,ln=>some (has,ln)
 | f + 1,b,num,has,ln =>
  if b.length=0 then some (has,ln)
  else if b.length < 2∨gB b 1=0∨(b.length:Int) < gB b 1 * 8 then none
  else if has=false∧gB b 0=num∧gB b 1=1 then optF f (b.drop (gB b 1 * 8).toNat) num true ((b.drop 2).take 6)
  else optF f (b.drop (gB b 1 * 8).toNat) num has ln
def optV (r:Option (Bool × List Int)):AV:=.tup [.agg (bytesC ((r.map (·.2)).getD zMac)),.base (.bool ((r.map (·.1)).getD false)),.base (.bool r.isSome)]
set_option maxHeartbeats 1000000 in
theorem options_any (l:List Int) (num:Int) (hB:IsB l) (hl:l.length≤100000):AFn Tryz.prog 156 0 [.isl (bytesC l) l.length,.base (.int .u8 num)] mt (optV (optF l.length l num false zMac)) mt:=by
 refine AFn.eq Tryz.func156 rfl rfl (Nat.le_of_ble_eq_true rfl) ?_
 obtain ⟨R,hR⟩:∃ R,optF l.length l num false zMac=R:=⟨_,rfl⟩
 rw [hR]
 refine Wq<|qW 0 3 rfl<|qB rfl ty23<|qA rfl<|qA rfl<|Nl<|Wq<|Wb<|W.loop_keep (α:=List Int × Bool × List Int × Nat) (fun x=>x.1.length) 1 (fun x=>[(0,.isl (bytesC x.1) x.1.length),(4,.own 0 0),(5,.base (.bool x.2.1))]) (fun x=>up mt 0 (some (bytesC x.2.2.1))) (fun x=>(x.1.length≤x.2.2.2∧x.1.length≤100000)∧IsB x.1∧x.2.2.1.length=6∧optF x.2.2.2 x.1 num x.2.1 x.2.2.1=R) (l,false,zMac,l.length) [(0,0)] (.cons (t:=1) rfl (by exact .inl rfl) .nil) (show (l.length≤l.length∧l.length≤100000)∧IsB l∧zMac.length=6∧optF l.length l num false zMac=R from ⟨⟨Nat.le_refl _,hl⟩,hB,rfl,hR⟩) (by decide) ?_ ?_ ?_
 ·exact lC (lR rfl) (lC (lI rfl) (lC (lR rfl) lN))
 ·exact aU (kR rfl) aM
 rintro ⟨b,has,ln,q⟩ hIA ihA
 try (dsimp only at hIA)
 try dsimp only [baseT,List.cons_append,List.nil_append]
 obtain ⟨⟨hq,hbl⟩,hb,h6,hr⟩:=hIA
 by_cases hz:b.length=0
 ·have g1:decide ((b.length:Int) > 0)=false:=decide_eq_false (by omega)
  have hr2:R=some (has,ln):=by
   rw [← hr]
   cases q with
   | zero=>rfl
   | succ q=>unfold optF;rw [if_pos hz]
  refine Wq<|Wq<|qW 7 10 rfl<|qM rfl<|qH rfl ty24<|qGt rfl<|Nl<|Wo rfl ‹_›<|Wx<|Wq<|qW 86 91 rfl<|qG rfl ty23 rfl (bytes_tk h6)<|qM rfl<|On rfl rfl (Sr rfl rfl rfl rfl rfl ty23 (show (bytesC ln).length=6 from by rw [bytesC_len,h6]) (by decide) (Sp.of_all rfl))<|qA rfl<|qA rfl<|Nl<|Wz ⟨.inl rfl,_,mt,(Rc (Ra0 rfl rfl ty23 rfl (bytes_tk h6)) (Rc (Rt0 rfl) (Rc (Rt0 rfl) Rv))),aM,?_⟩
  exact ⟨by rw [hr2];rfl,rfl⟩
 ·obtain ⟨q,rfl⟩:∃ p,q=p + 1:=⟨q - 1,by omega⟩
  have g1:decide ((b.length:Int) > 0)=true:=decide_eq_true (by omega)
  have b0:=hb.at 0
  have b1:=hb.at 1
  have hr3:R=if b.length=0 then some (has,ln) else if b.length < 2∨gB b 1=0∨(b.length:Int) < gB b 1 * 8 then none else if has=false∧gB b 0=num∧gB b 1=1 then optF q (b.drop (gB b 1 * 8).toNat) num true ((b.drop 2).take 6) else optF q (b.drop (gB b 1 * 8).toNat) num has ln:=by rw [← hr];rfl
  rw [if_neg hz] at hr3
  obtain ⟨y0,hy0⟩:∃ y0,gB b 0=y0:=⟨_,rfl⟩
  obtain ⟨y1,hy1⟩:∃ y1,gB b 1=y1:=⟨_,rfl⟩
  by_cases hbad:b.length < 2∨gB b 1=0∨(b.length:Int) < gB b 1 * 8
  ·rw [if_pos hbad] at hr3
   rw [hy1] at hbad b1
   have hc:b.length < 2∨(2≤b.length∧y1=0)∨(2≤b.length∧y1≠0∧(b.length:Int) < y1 * 8):=by omega
   rcases hc with c1|⟨c1,c2⟩|⟨c1,c2,c3⟩
   case' inl =>
    have g2:decide ((b.length:Int) < 2)=true:=decide_eq_true (by omega)
   case' inr.inl =>
    have g2:decide ((b.length:Int) < 2)=false:=decide_eq_false (by omega)
    have g3:(y1 == 0)=true:=by simpa using c2
    have hat1:=by_at (l:=b) (k:=1) (by omega)
    rw [hy1] at hat1
   case' inr.inr =>
    have g2:decide ((b.length:Int) < 2)=false:=decide_eq_false (by omega)
    have g3:(y1 == 0)=false:=by simpa using c2
    have g4:decide (y1 * 8 > (b.length:Int))=true:=decide_eq_true (by omega)
    have hat1:=by_at (l:=b) (k:=1) (by omega)
    rw [hy1] at hat1
   all_goals
    repeat (refine Wq ?_)
    refine qW 7 10 rfl<|qM rfl<|qH rfl ty24<|qGt rfl<|Nl<|Wt rfl ‹_›<|Wu<|Wb ?_
    repeat (refine Wq ?_)
    refine qW 14 33 rfl<|qM rfl<|qH rfl ty24<|qK rfl<|qM rfl ?_
    first
     | (refine RW.sd rfl rfl rfl ?_ rfl ?_;(· (first|rfl|assumption)))
     | (refine RW.gd rfl rfl rfl ?_ rfl (LO.move rfl rfl) ?_;(· (first|rfl|assumption)))
    first
     | (refine RW.sd rfl rfl rfl ?_ rfl ?_;(· (first|rfl|assumption)))
     | (refine RW.gd rfl rfl rfl ?_ rfl (LO.indexAddr_isl rfl rfl rfl rfl rfl ty24 ty5 ?_) ?_;(· (first|rfl|assumption));(· (first|omega|decide|assumption|fail|(simp;done)|(simp;omega))))
    first
     | (refine RW.sd rfl rfl rfl ?_ rfl ?_;(· (first|rfl|assumption)))
     | (refine RW.gd rfl rfl rfl ?_ rfl (LO.load_imm rfl rfl (by first|exact hat1) ty5 rfl) ?_;(· (first|rfl|assumption)))
    first
     | (refine RW.sd rfl rfl rfl ?_ rfl ?_;(· (first|rfl|assumption)))
     | (refine RW.gd rfl rfl rfl ?_ rfl (LO.eql rfl rfl rfl) ?_;(· (first|rfl|assumption)))
    first
     | (refine RW.opd rfl rfl (LO.pick_t rfl rfl ?_ rfl) ?_;(· (first|rfl|assumption)))
     | (refine RW.opd rfl rfl (LO.pick_f rfl rfl ?_ rfl) ?_;(· (first|rfl|assumption)))
    refine qM rfl ?_
    first
     | (refine RW.sd rfl rfl rfl ?_ rfl ?_;(· (first|rfl|assumption)))
     | (refine RW.gd rfl rfl rfl ?_ rfl (LO.move rfl rfl) ?_;(· (first|rfl|assumption)))
    first
     | (refine RW.sd rfl rfl rfl ?_ rfl ?_;(· (first|rfl|assumption)))
     | (refine RW.gd rfl rfl rfl ?_ rfl (LO.indexAddr_isl rfl rfl rfl rfl rfl ty24 ty5 ?_) ?_;(· (first|rfl|assumption));(· (first|omega|decide|assumption|fail|(simp;done)|(simp;omega))))
    first
     | (refine RW.sd rfl rfl rfl ?_ rfl ?_;(· (first|rfl|assumption)))
     | (refine RW.gd rfl rfl rfl ?_ rfl (LO.load_imm rfl rfl (by first|exact hat1) ty5 rfl) ?_;(· (first|rfl|assumption)))
    first
     | (refine RW.sd rfl rfl rfl ?_ rfl ?_;(· (first|rfl|assumption)))
     | (refine RW.gd rfl rfl rfl ?_ rfl (LO.conv_in rfl rfl ty5 ty3 ?_) ?_;(· (first|rfl|assumption));(· (first|exact IntWalk.i64_in _ (by omega)|assumption)))
    first
     | (refine RW.sd rfl rfl rfl ?_ rfl ?_;(· (first|rfl|assumption)))
     | (refine RW.gd rfl rfl rfl ?_ rfl (LO.mul_in rfl rfl rfl ?_) ?_;(· (first|rfl|assumption));(· (first|exact IntWalk.i64_in _ (by omega)|assumption)))
    first
     | (refine RW.sd rfl rfl rfl ?_ rfl ?_;(· (first|rfl|assumption)))
     | (refine RW.gd rfl rfl rfl ?_ rfl (LO.move rfl rfl) ?_;(· (first|rfl|assumption)))
    first
     | (refine RW.sd rfl rfl rfl ?_ rfl ?_;(· (first|rfl|assumption)))
     | (refine RW.gd rfl rfl rfl ?_ rfl (LO.len_isl rfl rfl rfl ty24) ?_;(· (first|rfl|assumption)))
    first
     | (refine RW.sd rfl rfl rfl ?_ rfl ?_;(· (first|rfl|assumption)))
     | (refine RW.gd rfl rfl rfl ?_ rfl (LO.gtr rfl rfl rfl) ?_;(· (first|rfl|assumption)))
    first
     | (refine RW.opd rfl rfl (LO.pick_t rfl rfl ?_ rfl) ?_;(· (first|rfl|assumption)))
     | (refine RW.opd rfl rfl (LO.pick_f rfl rfl ?_ rfl) ?_;(· (first|rfl|assumption)))
    refine Nl<|Wt rfl (by first|rfl|assumption) ?_
    repeat (refine Wq ?_)
    refine qW 37 41 rfl<|Od rfl rfl (LO.build_ar rfl ty23 ty5 .nil)<|qS rfl ty23 (Sp.of_all (by rw [bytesC_len,h6];rfl)) rfl<|qA rfl<|qA rfl<|Nl<|Wz ⟨.inl rfl,_,mt,(Rc (Ra0 rfl rfl ty23 rfl (Tl rfl)) (Rc (Rt0 rfl) (Rc (Rt0 rfl) Rv))),aM,?_⟩
    exact ⟨by rw [hr3];rfl,rfl⟩
  ·rw [if_neg hbad] at hr3
   rw [hy1] at hbad b1
   rw [hy0] at b0
   have c1:2≤b.length:=by omega
   have g2:decide ((b.length:Int) < 2)=false:=decide_eq_false (by omega)
   have g3:(y1 == 0)=false:=by simp;omega
   have g4:decide (y1 * 8 > (b.length:Int))=false:=decide_eq_false (by omega)
   have hat1:=by_at (l:=b) (k:=1) (by omega)
   have hat0:=by_at (l:=b) (k:=0) (by omega)
   rw [hy1] at hat1 hr3
   rw [hy0] at hat0 hr3
   obtain ⟨w,hw⟩:∃ w:Nat,y1 * 8=(w:Int):=⟨(y1 * 8).toNat,by omega⟩
   have hwt:(y1 * 8).toNat=w:=by omega
   rw [hwt] at hr3
   have hdl:(b.drop w).length=b.length - w:=by simp
   refine Wq<|Wq<|qW 7 10 rfl<|qM rfl<|qH rfl ty24<|qGt rfl<|Nl<|Wt rfl ‹_›<|Wu<|Wb<|Wq<|Wq<|qW 14 33 rfl<|qM rfl<|qH rfl ty24<|qK rfl<|qM rfl<|gM rfl ‹_›<|qU rfl ‹_› rfl (Ii rfl rfl rfl rfl rfl ty24 ty5 ‹_›)<|qU rfl ‹_› rfl (Li rfl rfl hat1 ty5 rfl)<|gE rfl ‹_›<|qP rfl ‹_› rfl<|qM rfl<|gM rfl ‹_›<|qU rfl ‹_› rfl (Ii rfl rfl rfl rfl rfl ty24 ty5 ‹_›)<|qU rfl ‹_› rfl (Li rfl rfl hat1 ty5 rfl)<|qU rfl ‹_› rfl (Ci rfl rfl ty5 ty3 (iW _ (by omega)))<|qU rfl ‹_› rfl (LO.mul_in rfl rfl rfl (iW _ (by omega)))<|gM rfl ‹_›<|gH rfl ‹_› ty24<|gGt rfl ‹_›<|qP rfl ‹_› rfl<|Nl<|Wo rfl ‹_›<|Wu ?_
   by_cases hcond:has=false∧y0=num∧y1=1
   ·obtain ⟨e1,e2,e3⟩:=hcond
    rw [if_pos ⟨e1,e2,e3⟩] at hr3
    have k1:(!has)=true:=by rw [e1];rfl
    have k2:(y0 == num)=true:=by simpa using e2
    have k3:(y1 == 1)=true:=by simpa using e3
    refine Wq<|Wq<|qW 45 60 rfl<|qM rfl<|qO rfl<|qM rfl<|gM rfl ‹_›<|qU rfl ‹_› rfl (Ii rfl rfl rfl rfl rfl ty24 ty5 (by simp;omega))<|qU rfl ‹_› rfl (Li rfl rfl hat0 ty5 rfl)<|gM rfl ‹_›<|gE rfl ‹_›<|qT rfl ‹_› rfl<|qM rfl<|gM rfl ‹_›<|qU rfl ‹_› rfl (Ii rfl rfl rfl rfl rfl ty24 ty5 ‹_›)<|qU rfl ‹_› rfl (Li rfl rfl hat1 ty5 rfl)<|gE rfl ‹_›<|qT rfl ‹_› rfl<|Nl<|Wt rfl ‹_› ?_
    have hl6:((b.drop 2).take (8 - 2)).length=6:=by simp;omega
    refine qW 64 70 rfl<|qM rfl<|Od rfl rfl (Lsi rfl rfl rfl (Ba rfl rfl) (Ba rfl rfl) (by decide) (by simp;omega) ty24 ty5 (by_part (l:=b) (k:=2) (m:=8) (by decide) (by omega)))<|Od rfl rfl (LO.toArr rfl rfl rfl ty23 (by decide) (by decide))<|Od rfl rfl (Lg rfl rfl ty23 rfl (bytes_tk hl6))<|On rfl rfl (Sr rfl rfl rfl rfl rfl ty23 (show (bytesC ((b.drop 2).take (8 - 2))).length=6 from by rw [bytesC_len,hl6]) (by decide) (Sp.of_all (show (bytesC ((b.drop 2).take (8 - 2))).length=(bytesC ln).length from by rw [bytesC_len,bytesC_len,hl6,h6])))<|qA rfl<|Nl<|qW 74 82 rfl<|qM rfl<|qM rfl<|qJ rfl rfl ty24 ty5 ‹_›<|Od rfl rfl (Li rfl rfl hat1 ty5 rfl)<|Od rfl rfl (Ci rfl rfl ty5 ty3 (iW _ (by omega)))<|Od rfl rfl (LO.mul_in rfl rfl rfl (iW _ (by omega)))<|Od rfl rfl (Lsi rfl rfl rfl (Ba rfl hw) Bnd.no (by omega) (by omega) ty24 ty5 (by_drop (l:=b) (k:=w) rfl))<|qA rfl<|Nl ?_
    rw [← hdl]
    refine WL.renameL [(0,0)] 1 (by decide) ?_ ?_ (ihA ((b.drop w),true,((b.drop 2).take (8 - 2)),q) (show (b.drop w).length < b.length from by omega) (show ((b.drop w).length≤q∧(b.drop w).length≤100000)∧IsB (b.drop w)∧((b.drop 2).take (8 - 2)).length=6∧optF q (b.drop w) num true ((b.drop 2).take (8 - 2))=R from ⟨⟨by omega,by omega⟩,hb.drop _,hl6,hr3.symm⟩))
    ·exact lC (lR rfl) (lC (lI rfl) (lC (lR rfl) (lC (lR rfl) lN)))
    ·exact aU (kP rfl (bytesC_pure _)) aM
   ·rw [if_neg hcond] at hr3
    have hcs:(!has)=false∨((!has)=true∧(y0 == num)=false)∨((!has)=true∧(y0 == num)=true∧(y1 == 1)=false):=by
     cases has
     ·by_cases e1:y0=num
      ·by_cases e2:y1=1
       ·exact absurd ⟨rfl,e1,e2⟩ hcond
       ·exact .inr (.inr ⟨rfl,by simpa using e1,by simpa using e2⟩)
      ·exact .inr (.inl ⟨rfl,by simpa using e1⟩)
     ·exact .inl rfl
    rcases hcs with k1|⟨k1,k2⟩|⟨k1,k2,k3⟩
    all_goals
     repeat (refine Wq ?_)
     refine qW 45 60 rfl<|qM rfl<|qO rfl<|qM rfl ?_
     first
      | (refine RW.sd rfl rfl rfl ?_ rfl ?_;(· (first|rfl|assumption)))
      | (refine RW.gd rfl rfl rfl ?_ rfl (LO.move rfl rfl) ?_;(· (first|rfl|assumption)))
     first
      | (refine RW.sd rfl rfl rfl ?_ rfl ?_;(· (first|rfl|assumption)))
      | (refine RW.gd rfl rfl rfl ?_ rfl (LO.indexAddr_isl rfl rfl rfl rfl rfl ty24 ty5 ?_) ?_;(· (first|rfl|assumption));(· (first|omega|decide|assumption|fail|(simp;done)|(simp;omega))))
     first
      | (refine RW.sd rfl rfl rfl ?_ rfl ?_;(· (first|rfl|assumption)))
      | (refine RW.gd rfl rfl rfl ?_ rfl (LO.load_imm rfl rfl hat0 ty5 rfl) ?_;(· (first|rfl|assumption)))
     first
      | (refine RW.sd rfl rfl rfl ?_ rfl ?_;(· (first|rfl|assumption)))
      | (refine RW.gd rfl rfl rfl ?_ rfl (LO.move rfl rfl) ?_;(· (first|rfl|assumption)))
     first
      | (refine RW.sd rfl rfl rfl ?_ rfl ?_;(· (first|rfl|assumption)))
      | (refine RW.gd rfl rfl rfl ?_ rfl (LO.eql rfl rfl rfl) ?_;(· (first|rfl|assumption)))
     first
      | (refine RW.opd rfl rfl (LO.pick_t rfl rfl ?_ rfl) ?_;(· (first|rfl|assumption)))
      | (refine RW.opd rfl rfl (LO.pick_f rfl rfl ?_ rfl) ?_;(· (first|rfl|assumption)))
     refine qM rfl ?_
     first
      | (refine RW.sd rfl rfl rfl ?_ rfl ?_;(· (first|rfl|assumption)))
      | (refine RW.gd rfl rfl rfl ?_ rfl (LO.move rfl rfl) ?_;(· (first|rfl|assumption)))
     first
      | (refine RW.sd rfl rfl rfl ?_ rfl ?_;(· (first|rfl|assumption)))
      | (refine RW.gd rfl rfl rfl ?_ rfl (LO.indexAddr_isl rfl rfl rfl rfl rfl ty24 ty5 ?_) ?_;(· (first|rfl|assumption));(· (first|omega|decide|assumption|fail|(simp;done)|(simp;omega))))
     first
      | (refine RW.sd rfl rfl rfl ?_ rfl ?_;(· (first|rfl|assumption)))
      | (refine RW.gd rfl rfl rfl ?_ rfl (LO.load_imm rfl rfl hat1 ty5 rfl) ?_;(· (first|rfl|assumption)))
     first
      | (refine RW.sd rfl rfl rfl ?_ rfl ?_;(· (first|rfl|assumption)))
      | (refine RW.gd rfl rfl rfl ?_ rfl (LO.eql rfl rfl rfl) ?_;(· (first|rfl|assumption)))
     first
      | (refine RW.opd rfl rfl (LO.pick_t rfl rfl ?_ rfl) ?_;(· (first|rfl|assumption)))
      | (refine RW.opd rfl rfl (LO.pick_f rfl rfl ?_ rfl) ?_;(· (first|rfl|assumption)))
     refine Nl<|Wo rfl (by first|rfl|assumption)<|Wu<|qW 74 82 rfl<|qM rfl<|qM rfl<|qJ rfl rfl ty24 ty5 ‹_›<|Od rfl rfl (Li rfl rfl hat1 ty5 rfl)<|Od rfl rfl (Ci rfl rfl ty5 ty3 (iW _ (by omega)))<|Od rfl rfl (LO.mul_in rfl rfl rfl (iW _ (by omega)))<|Od rfl rfl (Lsi rfl rfl rfl (Ba rfl hw) Bnd.no (by omega) (by omega) ty24 ty5 (by_drop (l:=b) (k:=w) rfl))<|qA rfl<|Nl ?_
     rw [← hdl]
     refine WL.renameL [(0,0)] 1 (by decide) ?_ ?_ (ihA ((b.drop w),has,ln,q) (show (b.drop w).length < b.length from by omega) (show ((b.drop w).length≤q∧(b.drop w).length≤100000)∧IsB (b.drop w)∧ln.length=6∧optF q (b.drop w) num has ln=R from ⟨⟨by omega,by omega⟩,hb.drop _,h6,hr3.symm⟩))
     ·exact lC (lR rfl) (lC (lI rfl) (lC (lR rfl) (lC (lR rfl) lN)))
     ·exact aU (kP rfl (bytesC_pure _)) aM
def chkE (p:Pk):Int:=if !vpk p then 1 else if !p.s.v6 || p.p != 58 then 5 else if p.t != 255 then 10 else if decide ((p.bs.length:Int) < 4) then 4 else if chkF p.s p.d p.p p.bs != 0 then 6 else if decide (gB p.bs 0 < 133) || decide (137 < gB p.bs 0) || gB p.bs 1 != 0 then 5 else 0
theorem vpk_parts {p:Pk} (h:vpk p=true):validA p.s.v6 p.s.hi p.s.lo=true∧validA p.d.v6 p.d.hi p.d.lo=true∧p.bs.length≤1480:=by
 obtain ⟨h1,h2,h3,_,_,h6⟩:=valid_parts h
 exact ⟨h1,h2,by have:=most_le p.s.v6;omega⟩
set_option maxHeartbeats 1000000 in
theorem check_any (p:Pk) (hB:IsB p.bs) (s1:U64 p.s.hi) (s2:U64 p.s.lo) (d1:U64 p.d.hi) (d2:U64 p.d.lo):AFn Tryz.prog 152 0 [.agg (pkC p)] mt (.base (.int .i64 (chkE p))) mt:=by
 refine AFn.eq Tryz.func152 rfl rfl (Nat.le_of_ble_eq_true rfl) ?_
 have hvp:=pvalid_any p
 cases hv:vpk p with
 | false =>
  rw [hv] at hvp
  have hE:chkE p=1:=by unfold chkE;rw [hv];rfl
  rw [hE]
  refine Wq<|qW 0 2 rfl<|qC rfl<|qA rfl<|Nl<|Wq<|Wb<|Wq<|qW 6 10 rfl<|qG rfl ty83 rfl (Tl rfl)<|qY rfl (hvp) fok151 rfl<|qO rfl<|qA rfl<|Nl<|Wt rfl rfl<|Wq<|qW 14 15 rfl<|qA rfl<|Nl<|Wz ⟨.inl rfl,_,mt,Rc (Rt0 rfl) (Rv),aM,?_⟩
  exact ⟨rfl,rfl⟩
 | true =>
  rw [hv] at hvp
  obtain ⟨v1,v2,v3⟩:=vpk_parts hv
  have hck:=chk_any p.s p.d p.p p.bs v1 v2 s1 s2 d1 d2 hB (by omega)
  have atb0:4≤p.bs.length→(bytesC p.bs)[0 * 1]?=some (.base (.int .u8 (gB p.bs 0))):=fun h=>by_at (by omega)
  have atb1:4≤p.bs.length→(bytesC p.bs)[1 * 1]?=some (.base (.int .u8 (gB p.bs 1))):=fun h=>by_at (by omega)
  unfold pkC adC at hvp
  unfold adC at hck
  unfold pkC adC
  refine Wq<|qW 0 2 rfl<|qC rfl<|qA rfl<|Nl<|Wq<|Wb<|Wq<|qW 6 10 rfl<|qG rfl ty83 rfl (Tl rfl)<|qY rfl (hvp) fok151 rfl<|qO rfl<|qA rfl<|Nl<|W.cond rfl (fun hb1=>?_) (fun hb1=>?_)
  ·
   try (have hb1p:=of_decide_eq_true hb1)
   try (have hb1q:=eq_of_beq hb1)
   refine Wq<|qW 14 15 rfl<|qA rfl<|Nl<|Wz ⟨.inl rfl,_,mt,Rc (Rt0 rfl) (Rv),aM,?_⟩
   exact ⟨by (simp_all [chkE,retOf])<;>omega,rfl⟩
  ·
   try (have hb1p:=of_decide_eq_false hb1)
   try (have hb1q:=ne_of_beq_false hb1)
   refine Wq<|qW 19 29 rfl<|qF rfl ty83 rfl<|qF rfl ty54 rfl<|qL rfl ty4 rfl<|qO rfl<|qM rfl<|RW.split (t:=12) rfl (fun hb2=>?_) (fun hb2=>?_)
   ·
    try (have hb2p:=of_decide_eq_true hb2)
    try (have hb2q:=eq_of_beq hb2)
    refine qD rfl hb2 rfl<|qD rfl hb2 rfl<|qD rfl hb2 rfl<|qT rfl hb2 rfl<|qA rfl<|Nl<|Wt rfl rfl<|Wq<|qW 33 34 rfl<|qA rfl<|Nl<|Wz ⟨.inl rfl,_,mt,Rc (Rt0 rfl) (Rv),aM,?_⟩
    exact ⟨by (simp_all [chkE,retOf])<;>omega,rfl⟩
   ·
    try (have hb2p:=of_decide_eq_false hb2)
    try (have hb2q:=ne_of_beq_false hb2)
    refine gF rfl hb2 ty83 rfl<|gL rfl hb2 ty3 rfl<|gN rfl hb2<|qP rfl hb2 rfl<|qA rfl<|Nl<|W.cond rfl (fun hb3=>?_) (fun hb3=>?_)
    ·
     try (have hb3p:=of_decide_eq_true hb3)
     try (have hb3q:=eq_of_beq hb3)
     refine Wq<|qW 33 34 rfl<|qA rfl<|Nl<|Wz ⟨.inl rfl,_,mt,Rc (Rt0 rfl) (Rv),aM,?_⟩
     exact ⟨by (simp_all [chkE,retOf])<;>omega,rfl⟩
    ·
     try (have hb3p:=of_decide_eq_false hb3)
     try (have hb3q:=ne_of_beq_false hb3)
     refine Wq<|qW 38 42 rfl<|qF rfl ty83 rfl<|qL rfl ty3 rfl<|qN rfl<|qA rfl<|Nl<|W.cond rfl (fun hb4=>?_) (fun hb4=>?_)
     ·
      try (have hb4p:=of_decide_eq_true hb4)
      try (have hb4q:=eq_of_beq hb4)
      refine Wq<|qW 46 47 rfl<|qA rfl<|Nl<|Wz ⟨.inl rfl,_,mt,Rc (Rt0 rfl) (Rv),aM,?_⟩
      exact ⟨by (simp_all [chkE,retOf])<;>omega,rfl⟩
     ·
      try (have hb4p:=of_decide_eq_false hb4)
      try (have hb4q:=ne_of_beq_false hb4)
      refine Wq<|qW 51 56 rfl<|qF rfl ty83 rfl<|qL rfl ty24 rfl<|qH rfl ty24<|qK rfl<|qA rfl<|Nl<|W.cond rfl (fun hb5=>?_) (fun hb5=>?_)
      ·
       try (have hb5p:=of_decide_eq_true hb5)
       try (have hb5q:=eq_of_beq hb5)
       refine Wq<|qW 60 61 rfl<|qA rfl<|Nl<|Wz ⟨.inl rfl,_,mt,Rc (Rt0 rfl) (Rv),aM,?_⟩
       exact ⟨by (simp_all [chkE,retOf])<;>omega,rfl⟩
      ·
       try (have hb5p:=of_decide_eq_false hb5)
       try (have hb5q:=ne_of_beq_false hb5)
       refine Wq<|qW 65 76 rfl<|qF rfl ty83 rfl<|qG rfl ty54 rfl (Tl rfl)<|qF rfl ty83 rfl<|qG rfl ty54 rfl (Tl rfl)<|qF rfl ty83 rfl<|qL rfl ty3 rfl<|qF rfl ty83 rfl<|qL rfl ty24 rfl<|qY rfl (hck) fok179 rfl<|qN rfl<|qA rfl<|Nl<|W.cond rfl (fun hb6=>?_) (fun hb6=>?_)
       ·
        try (have hb6p:=of_decide_eq_true hb6)
        try (have hb6q:=eq_of_beq hb6)
        refine Wq<|qW 80 81 rfl<|qA rfl<|Nl<|Wz ⟨.inl rfl,_,mt,Rc (Rt0 rfl) (Rv),aM,?_⟩
        exact ⟨by (simp_all [chkE,retOf])<;>omega,rfl⟩
       ·
        try (have hb6p:=of_decide_eq_false hb6)
        try (have hb6q:=ne_of_beq_false hb6)
        refine Wq<|qW 85 105 rfl<|qF rfl ty83 rfl<|qL rfl ty24 rfl<|qJ rfl rfl ty24 ty5 (by simp;omega)<|Od rfl rfl (Li rfl rfl (atb0 (by omega)) ty5 rfl)<|qK rfl<|qM rfl<|RW.split (t:=43) rfl (fun hb7=>?_) (fun hb7=>?_)
        ·
         try (have hb7p:=of_decide_eq_true hb7)
         try (have hb7q:=eq_of_beq hb7)
         refine qD rfl hb7 rfl<|qD rfl hb7 rfl<|qD rfl hb7 rfl<|qD rfl hb7 rfl<|qD rfl hb7 rfl<|qT rfl hb7 rfl<|qM rfl<|qD rfl rfl rfl<|qD rfl rfl rfl<|qD rfl rfl rfl<|qD rfl rfl rfl<|qD rfl rfl rfl<|qT rfl rfl rfl<|qA rfl<|Nl<|Wt rfl rfl<|Wq<|qW 109 110 rfl<|qA rfl<|Nl<|Wz ⟨.inl rfl,_,mt,Rc (Rt0 rfl) (Rv),aM,?_⟩
         exact ⟨by (simp_all [chkE,retOf])<;>omega,rfl⟩
        ·
         try (have hb7p:=of_decide_eq_false hb7)
         try (have hb7q:=ne_of_beq_false hb7)
         refine gF rfl hb7 ty83 rfl<|gL rfl hb7 ty24 rfl<|qU rfl hb7 rfl (Ii rfl rfl rfl rfl rfl ty24 ty5 (by simp;omega))<|qU rfl hb7 rfl (Li rfl rfl (atb0 (by omega)) ty5 rfl)<|gGt rfl hb7<|qP rfl hb7 rfl<|qM rfl<|RW.split (t:=50) rfl (fun hb8=>?_) (fun hb8=>?_)
         ·
          try (have hb8p:=of_decide_eq_true hb8)
          try (have hb8q:=eq_of_beq hb8)
          refine qD rfl hb8 rfl<|qD rfl hb8 rfl<|qD rfl hb8 rfl<|qD rfl hb8 rfl<|qD rfl hb8 rfl<|qT rfl hb8 rfl<|qA rfl<|Nl<|Wt rfl rfl<|Wq<|qW 109 110 rfl<|qA rfl<|Nl<|Wz ⟨.inl rfl,_,mt,Rc (Rt0 rfl) (Rv),aM,?_⟩
          exact ⟨by (simp_all [chkE,retOf])<;>omega,rfl⟩
         ·
          try (have hb8p:=of_decide_eq_false hb8)
          try (have hb8q:=ne_of_beq_false hb8)
          refine gF rfl hb8 ty83 rfl<|gL rfl hb8 ty24 rfl<|qU rfl hb8 rfl (Ii rfl rfl rfl rfl rfl ty24 ty5 (by simp;omega))<|qU rfl hb8 rfl (Li rfl rfl (atb1 (by omega)) ty5 rfl)<|gN rfl hb8<|qP rfl hb8 rfl<|qA rfl<|Nl<|W.cond rfl (fun hb9=>?_) (fun hb9=>?_)
          ·
           try (have hb9p:=of_decide_eq_true hb9)
           try (have hb9q:=eq_of_beq hb9)
           refine Wq<|qW 109 110 rfl<|qA rfl<|Nl<|Wz ⟨.inl rfl,_,mt,Rc (Rt0 rfl) (Rv),aM,?_⟩
           exact ⟨by (simp_all [chkE,retOf])<;>omega,rfl⟩
          ·
           try (have hb9p:=of_decide_eq_false hb9)
           try (have hb9q:=ne_of_beq_false hb9)
           refine Wu<|Wq<|qW 114 115 rfl<|qA rfl<|Nl<|Wz ⟨.inl rfl,_,mt,Rc (Rt0 rfl) (Rv),aM,?_⟩
           exact ⟨by (simp_all [chkE,retOf])<;>omega,rfl⟩
end Go.Proofs.YtlcndmciognneaaGreatDoor
