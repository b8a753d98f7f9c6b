/-
  The sort of up to 15 objects: the same objects, as many.
-/
import Derived.Test.YtbfnfgpjgdbmeaaGreatDoorNt
import Derived.Test.YtbfnfgpjgdbmeaaGreatDoorMab
namespace Go.Proofs.YtbfnfgpjgdbmeaaGreatDoor
open Go.RowKit
theorem l64x13:AFn Tryz.prog 209 0 [.base (.int .u64 13)] mt (.base (.int .i64 4)) mt:=by
 refine AFn.eq Tryz.func209 rfl rfl (Nat.le_of_ble_eq_true rfl)<|Wq<|qW 0 1 rfl<|qA rfl<|Nl<|Wq<|Wq<|qW 5 7 rfl<|qM rfl<|qGe rfl<|Nl<|Wo rfl rfl<|Wu<|Wq<|Wq<|qW 23 25 rfl<|qM rfl<|qGe rfl<|Nl<|Wo rfl rfl<|Wu<|Wq<|Wq<|qW 43 45 rfl<|qM rfl<|qGe rfl<|Nl<|Wo rfl rfl<|Wu<|Wq<|qW 63 70 rfl<|qM rfl<|qM rfl<|Od rfl rfl (Ci rfl rfl ty34 ty5 (IntWalk.u8_in _ (by omega)))<|Od rfl rfl (LO.indexStr (b:=4) (j:=13) rfl rfl rfl rfl ty9 (by kernel_rfl))<|Od rfl rfl (LO.conv rfl rfl ty5 ty3)<|Od rfl rfl (LO.add rfl rfl rfl)<|qA rfl<|Nl<|Wz ⟨.inl rfl,_,mt,(Rc (Rt0 rfl) Rv),aM,?_⟩
 exact ⟨rfl,rfl⟩
theorem len13:AFn Tryz.prog 144 0 [.base (.int .u64 13)] mt (.base (.int .i64 4)) mt:=by
 refine AFn.eq Tryz.func144 rfl rfl (Nat.le_of_ble_eq_true rfl) ?_
 have h1:=l64x13
 refine Wq<|qW 0 1 rfl<|qA rfl<|Nl<|Wq<|Wo rfl rfl<|Wu<|Wq<|qW 13 16 rfl<|qM rfl<|qY rfl (h1) fok209 rfl<|qA rfl<|Nl<|Wz ⟨.inl rfl,_,mt,(Rc (Rt0 rfl) Rv),aM,?_⟩
 exact ⟨rfl,rfl⟩
theorem l64x14:AFn Tryz.prog 209 0 [.base (.int .u64 14)] mt (.base (.int .i64 4)) mt:=by
 refine AFn.eq Tryz.func209 rfl rfl (Nat.le_of_ble_eq_true rfl)<|Wq<|qW 0 1 rfl<|qA rfl<|Nl<|Wq<|Wq<|qW 5 7 rfl<|qM rfl<|qGe rfl<|Nl<|Wo rfl rfl<|Wu<|Wq<|Wq<|qW 23 25 rfl<|qM rfl<|qGe rfl<|Nl<|Wo rfl rfl<|Wu<|Wq<|Wq<|qW 43 45 rfl<|qM rfl<|qGe rfl<|Nl<|Wo rfl rfl<|Wu<|Wq<|qW 63 70 rfl<|qM rfl<|qM rfl<|Od rfl rfl (Ci rfl rfl ty34 ty5 (IntWalk.u8_in _ (by omega)))<|Od rfl rfl (LO.indexStr (b:=4) (j:=14) rfl rfl rfl rfl ty9 (by kernel_rfl))<|Od rfl rfl (LO.conv rfl rfl ty5 ty3)<|Od rfl rfl (LO.add rfl rfl rfl)<|qA rfl<|Nl<|Wz ⟨.inl rfl,_,mt,(Rc (Rt0 rfl) Rv),aM,?_⟩
 exact ⟨rfl,rfl⟩
theorem len14:AFn Tryz.prog 144 0 [.base (.int .u64 14)] mt (.base (.int .i64 4)) mt:=by
 refine AFn.eq Tryz.func144 rfl rfl (Nat.le_of_ble_eq_true rfl) ?_
 have h1:=l64x14
 refine Wq<|qW 0 1 rfl<|qA rfl<|Nl<|Wq<|Wo rfl rfl<|Wu<|Wq<|qW 13 16 rfl<|qM rfl<|qY rfl (h1) fok209 rfl<|qA rfl<|Nl<|Wz ⟨.inl rfl,_,mt,(Rc (Rt0 rfl) Rv),aM,?_⟩
 exact ⟨rfl,rfl⟩
theorem l64x15:AFn Tryz.prog 209 0 [.base (.int .u64 15)] mt (.base (.int .i64 4)) mt:=by
 refine AFn.eq Tryz.func209 rfl rfl (Nat.le_of_ble_eq_true rfl)<|Wq<|qW 0 1 rfl<|qA rfl<|Nl<|Wq<|Wq<|qW 5 7 rfl<|qM rfl<|qGe rfl<|Nl<|Wo rfl rfl<|Wu<|Wq<|Wq<|qW 23 25 rfl<|qM rfl<|qGe rfl<|Nl<|Wo rfl rfl<|Wu<|Wq<|Wq<|qW 43 45 rfl<|qM rfl<|qGe rfl<|Nl<|Wo rfl rfl<|Wu<|Wq<|qW 63 70 rfl<|qM rfl<|qM rfl<|Od rfl rfl (Ci rfl rfl ty34 ty5 (IntWalk.u8_in _ (by omega)))<|Od rfl rfl (LO.indexStr (b:=4) (j:=15) rfl rfl rfl rfl ty9 (by kernel_rfl))<|Od rfl rfl (LO.conv rfl rfl ty5 ty3)<|Od rfl rfl (LO.add rfl rfl rfl)<|qA rfl<|Nl<|Wz ⟨.inl rfl,_,mt,(Rc (Rt0 rfl) Rv),aM,?_⟩
 exact ⟨rfl,rfl⟩
theorem len15:AFn Tryz.prog 144 0 [.base (.int .u64 15)] mt (.base (.int .i64 4)) mt:=by
 refine AFn.eq Tryz.func144 rfl rfl (Nat.le_of_ble_eq_true rfl) ?_
 have h1:=l64x15
 refine Wq<|qW 0 1 rfl<|qA rfl<|Nl<|Wq<|Wo rfl rfl<|Wu<|Wq<|qW 13 16 rfl<|qM rfl<|qY rfl (h1) fok209 rfl<|qA rfl<|Nl<|Wz ⟨.inl rfl,_,mt,(Rc (Rt0 rfl) Rv),aM,?_⟩
 exact ⟨rfl,rfl⟩
theorem pow13:AFn Tryz.prog 284 0 [.base (.int .i64 13)] mt (.base (.int .u64 16)) mt:=by
 refine AFn.eq Tryz.func284 rfl rfl (Nat.le_of_ble_eq_true rfl) ?_
 have h1:=len13
 refine Wq<|qW 0 1 rfl<|qA rfl<|Nl<|Wq<|qW 5 10 rfl<|qM rfl<|Od rfl rfl (Ci rfl rfl ty3 ty151 (IntWalk.u64_in _ (by omega)))<|qY rfl (h1) fok144 rfl<|Od rfl rfl (LO.shl rfl rfl rfl (by omega))<|qA rfl<|Nl<|Wz ⟨.inl rfl,_,mt,(Rc (Rt0 rfl) Rv),aM,?_⟩
 exact ⟨by rw [show IntKind.u64.wrap (1 * 2 ^ min (Int.toNat 4) IntKind.u64.bits)=16 from by decide];rfl,rfl⟩
theorem pow14:AFn Tryz.prog 284 0 [.base (.int .i64 14)] mt (.base (.int .u64 16)) mt:=by
 refine AFn.eq Tryz.func284 rfl rfl (Nat.le_of_ble_eq_true rfl) ?_
 have h1:=len14
 refine Wq<|qW 0 1 rfl<|qA rfl<|Nl<|Wq<|qW 5 10 rfl<|qM rfl<|Od rfl rfl (Ci rfl rfl ty3 ty151 (IntWalk.u64_in _ (by omega)))<|qY rfl (h1) fok144 rfl<|Od rfl rfl (LO.shl rfl rfl rfl (by omega))<|qA rfl<|Nl<|Wz ⟨.inl rfl,_,mt,(Rc (Rt0 rfl) Rv),aM,?_⟩
 exact ⟨by rw [show IntKind.u64.wrap (1 * 2 ^ min (Int.toNat 4) IntKind.u64.bits)=16 from by decide];rfl,rfl⟩
def xs1 (x:Int):Int:=bitV .xor .u64 x (IntKind.u64.wrap (x * 2 ^ (min (13:Int).toNat IntKind.u64.bits)))
def xs2 (x:Int):Int:=bitV .xor .u64 x (x.fdiv (2 ^ (min (7:Int).toNat IntKind.u64.bits)))
def xs3 (x:Int):Int:=bitV .xor .u64 x (IntKind.u64.wrap (x * 2 ^ (min (17:Int).toNat IntKind.u64.bits)))
theorem xnext_any (x:Int):AFn Tryz.prog 285 1 [.own 0 0] (up mt 0 (some [.base (.int .u64 x)])) (.base (.int .u64 (xs3 (xs2 (xs1 x))))) (up mt 0 (some [.base (.int .u64 (xs3 (xs2 (xs1 x))))])):=by
 refine AFn.eq Tryz.func285 rfl rfl (Nat.le_of_ble_eq_true rfl)<|Wq<|qW 1 2 rfl<|qA rfl<|Nl<|Wq<|Wd 6 16 (by decide) rfl mixed rfl<|qM rfl<|Od rfl rfl (Nc rfl rfl)<|qL rfl ty367 rfl<|qM rfl<|Od rfl rfl (Nc rfl rfl)<|qL rfl ty367 rfl<|Od rfl rfl (LO.shl rfl rfl rfl (by omega))<|Od rfl rfl (LO.xor rfl rfl rfl)<|Od rfl rfl (Nc rfl rfl)<|qS rfl ty367 (Sl rfl) rfl<|Nl ⟨by kernel_rfl,?_⟩
 rw [show bitV .xor .u64 x (IntKind.u64.wrap (x * 2 ^ (min (13:Int).toNat IntKind.u64.bits)))=xs1 x from rfl]
 generalize xs1 x=x1
 refine Wq<|Wd 20 30 (by decide) rfl mixed rfl<|qM rfl<|Od rfl rfl (Nc rfl rfl)<|qL rfl ty367 rfl<|qM rfl<|Od rfl rfl (Nc rfl rfl)<|qL rfl ty367 rfl<|Od rfl rfl (LO.shr rfl rfl rfl (by omega))<|Od rfl rfl (LO.xor rfl rfl rfl)<|Od rfl rfl (Nc rfl rfl)<|qS rfl ty367 (Sl rfl) rfl<|Nl ⟨by kernel_rfl,?_⟩
 rw [show bitV .xor .u64 x1 (x1.fdiv (2 ^ (min (7:Int).toNat IntKind.u64.bits)))=xs2 x1 from rfl]
 generalize xs2 x1=x2
 refine Wq<|Wd 34 44 (by decide) rfl mixed rfl<|qM rfl<|Od rfl rfl (Nc rfl rfl)<|qL rfl ty367 rfl<|qM rfl<|Od rfl rfl (Nc rfl rfl)<|qL rfl ty367 rfl<|Od rfl rfl (LO.shl rfl rfl rfl (by omega))<|Od rfl rfl (LO.xor rfl rfl rfl)<|Od rfl rfl (Nc rfl rfl)<|qS rfl ty367 (Sl rfl) rfl<|Nl ⟨by kernel_rfl,?_⟩
 rw [show bitV .xor .u64 x2 (IntKind.u64.wrap (x2 * 2 ^ (min (17:Int).toNat IntKind.u64.bits)))=xs3 x2 from rfl]
 generalize xs3 x2=x3
 refine Wq<|qW 48 52 rfl<|qM rfl<|Od rfl rfl (Nc rfl rfl)<|qL rfl ty367 rfl<|qA rfl<|Nl<|Wz ⟨.inl rfl,_,(up mt 0 (some [.base (.int .u64 x3)])),(Rc (Rt0 rfl) Rv),(aU rfl aM),?_⟩
 exact ⟨rfl,rfl⟩
theorem and15 (y:Int):∃ k:Nat,bitV .and .u64 y 15=(k:Int)∧k≤15:=by
 have h:(BitVec.ofInt 64 y &&& BitVec.ofInt 64 15).toNat≤15:=by
  rw [BitVec.toNat_and]
  exact Nat.le_trans Nat.and_le_right (by decide)
 refine ⟨(BitVec.ofInt 64 y &&& BitVec.ofInt 64 15).toNat,?_,h⟩
 show IntKind.u64.wrap ((BitVec.ofInt 64 y &&& BitVec.ofInt 64 15).toNat:Int)=_
 rw [IntKind.wrap_u64]
 omega
set_option maxHeartbeats 2000000 in
theorem break_any (l:List ObjR) (a b:Nat) (hab:b=a + 13∨b=a + 14) (hb:b≤l.length) (hl:l.length≤1000):∃ v H',AFn Tryz.prog 214 1 [.osl 0 0 l.length 6,.base (.int .i64 ((a:Nat):Int)),.base (.int .i64 ((b:Nat):Int)),cmpFn] (up mt 0 (some (objsC l))) v H'∧∃ m:List ObjR,SameO m l∧v=.tup []∧H'=(up mt 0 (some (objsC m))):=by
 refine AFn.ex Tryz.func214 rfl rfl (Nat.le_of_ble_eq_true rfl) ?_
 obtain ⟨n,hn,hn2,hpw⟩:∃ n:Nat,(b:Int) - (a:Int)=(n:Int)∧(b=a + n∧(n=13∨n=14))∧AFn Tryz.prog 284 0 [.base (.int .i64 (n:Int))] mt (.base (.int .u64 16)) mt:=by
  rcases hab with h|h
  ·exact ⟨13,by omega,⟨h,.inl rfl⟩,pow13⟩
  ·exact ⟨14,by omega,⟨h,.inr rfl⟩,pow14⟩
 have g1:decide ((n:Int) ≥ 8)=true:=decide_eq_true (by omega)
 have e1:((a:Nat):Int) + (n:Int) / 4 * 2 - 1=((a + 5:Nat):Int):=by omega
 unfold cmpFn
 refine Wq<|qW 1 5 rfl<|qM rfl<|qM rfl<|Od rfl rfl (LO.sub_in rfl rfl rfl (iW _ (by omega)))<|qA rfl<|Nl ?_
 rw [hn]
 refine Wq<|qW 9 11 rfl<|qM rfl<|qGe rfl<|Nl<|Wt rfl ‹_›<|Wq<|qW 15 19 rfl<|qM rfl<|Od rfl rfl (Ci rfl rfl ty3 ty367 (IntWalk.u64_in _ (by omega)))<|qB rfl ty367<|qS rfl ty367 (Sl rfl) rfl<|Nl<|Wq<|qW 23 26 rfl<|qM rfl<|qY rfl (hpw) fok284 rfl<|qA rfl<|Nl<|Wq<|qW 30 37 rfl<|qM rfl<|qM rfl<|Od rfl rfl (LO.quo_in rfl rfl rfl (by omega) (by omega) (iW _ (by omega)))<|Od rfl rfl (LO.mul_in rfl rfl rfl (iW _ (by omega)))<|qZ rfl (iW _ (by omega))<|Od rfl rfl (LO.sub_in rfl rfl rfl (iW _ (by omega)))<|qA rfl<|Nl ?_
 rw [e1]
 refine Wb<|W.rename [(0,0),(1,17)] 2 (by decide) ?_ ?_ (W.loop_ind (α:=Nat × List ObjR × Int) (fun x=>a + 8 - x.1) 2 (fun x=>up (up (up (up (up (up mt 0 (some (.osl 0 0 l.length 6))) 1 (some (.base (.int .i64 ((a:Nat):Int))))) 8 (some (.base (.int .i64 ((n:Nat):Int))))) 9 (some (.own 1 0))) 10 (some (.base (.int .u64 16)))) 11 (some (.base (.int .i64 ((x.1:Nat):Int))))) (fun x=>up (up mt 0 (some (objsC x.2.1))) 1 (some ([.base (.int .u64 x.2.2)]))) (fun x=>a + 5≤x.1∧SameO x.2.1 l) ((a + 5),l,((n:Int))) (show a + 5≤(a + 5)∧SameO l l from ⟨Nat.le_refl _,SameO.refl l⟩) ?_)
 ·exact aR (aR (aI (aR (aR (aI aM)))))
 ·exact aU (kR rfl) (aU (kP rfl (objsC_pure _)) aM)
 rintro ⟨i,m,x⟩ hIA ihA
 try (dsimp only at hIA)
 try dsimp only
 obtain ⟨hi,hm⟩:=hIA
 have hml:=hm.len
 by_cases hc:i≤a + 7
 ·have g2:decide ((i:Int)≤((a:Nat):Int) + (n:Int) / 4 * 2 + 1)=true:=decide_eq_true (by omega)
  have hnx:=xnext_any x
  obtain ⟨k,hk,hk15⟩:=and15 (xs3 (xs2 (xs1 x)))
  refine Wq<|Wq<|qW 41 49 rfl<|qM rfl<|qM rfl<|qM rfl<|Od rfl rfl (LO.quo_in rfl rfl rfl (by omega) (by omega) (iW _ (by omega)))<|Od rfl rfl (LO.mul_in rfl rfl rfl (iW _ (by omega)))<|qZ rfl (iW _ (by omega))<|qZ rfl (iW _ (by omega))<|qLe rfl<|Nl<|Wt rfl ‹_›<|Wu<|Wq<|Wb ?_
  have hcv:IntKind.i64.wrap (bitV .and .u64 (xs3 (xs2 (xs1 x))) (16 - 1))=bitV .and .u64 (xs3 (xs2 (xs1 x))) (16 - 1):=by
   rw [show (16:Int) - 1=15 from rfl,hk]
   exact IntWalk.i64_in _ (by omega)
  refine Wq<|qW 53 59 rfl<|Od rfl rfl (C1 (fr:=[]) rfl rfl (hnx) fok285 (.own rfl rfl .nil) rfl rfl rfl (Cn _ _) (by decide) rfl)<|qM rfl<|Od rfl rfl (LO.sub_in rfl rfl rfl (IntWalk.u64_in _ (by omega)))<|Od rfl rfl (LO.and rfl rfl rfl)<|Od rfl rfl (Ci rfl rfl ty151 ty3 ‹_›)<|qA rfl<|Nl ?_
  rw [show (16:Int) - 1=15 from rfl,hk]
  by_cases hkn:k < n
  ·have g3:decide ((k:Int) ≥ (n:Int))=false:=decide_eq_false (by omega)
   refine Wq<|Wq<|qW 63 66 rfl<|qM rfl<|qM rfl<|qGe rfl<|Nl<|Wo rfl ‹_›<|Wu ?_
   have he:((a:Nat):Int) + ((k:Nat):Int)=((a + (k):Nat):Int):=by omega
   have hki:i < m.length:=by omega
   have hkj:a + (k) < m.length:=by omega
   have hil:i < l.length:=by omega
   have hjl:a + (k) < l.length:=by omega
   have hsw:=hm.swp (i:=i) (j:=a + (k)) hki hkj
   have hti:=objs_tk0 hki
   have htj:=objs_tk0 hkj
   have hs1:=objs_sp (l:=m) (i:=i) m[a + (k)] hki
   have hs2:=objs_sp (l:=m.set i m[a + (k)]) (i:=a + (k)) m[i] (by simpa using hkj)
   generalize m[i]=pp at hsw hti hs2
   generalize m[a + (k)]=qq at hsw htj hs1 hs2
   refine Wd 78 98 (by decide) rfl mixed rfl<|qM rfl<|qM rfl<|qM rfl<|qM rfl<|qM rfl<|qZ rfl (iW _ (by omega))<|qM rfl<|qM rfl<|qM rfl<|qZ rfl (iW _ (by omega))<|Od rfl rfl (Ia rfl rfl rfl rfl ty30 ty40 (by omega))<|qG rfl ty40 rfl htj<|qM rfl<|qM rfl<|Od rfl rfl (Ia rfl rfl rfl rfl ty30 ty40 (by omega))<|qG rfl ty40 rfl hti<|Od rfl rfl (Ia rfl rfl rfl rfl ty30 ty40 (by omega))<|qS rfl ty40 hs1 rfl<|Od rfl rfl (Ia rfl rfl rfl rfl ty30 ty40 (by omega))<|qS rfl ty40 hs2 rfl<|Nl ⟨by kernel_rfl,(qW 102 105 rfl<|qM rfl<|qZ rfl (iW _ (by omega))<|qA rfl<|Nl ?_)⟩
   rw [show (i:Int) + 1=((i + 1:Nat):Int) from by omega]
   refine WL.rename [(0,0),(1,1)] 2 (by decide) ?_ ?_ (ihA ((i + 1),((m.set i qq).set (a + (k)) pp),(xs3 (xs2 (xs1 x)))) (show a + 8 - (i + 1) < a + 8 - i from by omega) (show a + 5≤(i + 1)∧SameO ((m.set i qq).set (a + (k)) pp) l from ⟨by omega,hsw⟩))
   ·exact aR (aR (aI (aR (aR (aI aM)))))
   ·exact aU (kR rfl) (aU (kP rfl (objsC_pure _)) aM)
  ·have g3:decide ((k:Int) ≥ (n:Int))=true:=decide_eq_true (by omega)
   refine Wq<|Wq<|qW 63 66 rfl<|qM rfl<|qM rfl<|qGe rfl<|Nl<|Wt rfl ‹_›<|qW 70 74 rfl<|qM rfl<|qM rfl<|Od rfl rfl (LO.sub_in rfl rfl rfl (iW _ (by omega)))<|qA rfl<|Nl ?_
   rw [show (k:Int) - (n:Int)=((k - n:Nat):Int) from by omega]
   have he:((a:Nat):Int) + ((k - n:Nat):Int)=((a + (k - n):Nat):Int):=by omega
   have hki:i < m.length:=by omega
   have hkj:a + (k - n) < m.length:=by omega
   have hil:i < l.length:=by omega
   have hjl:a + (k - n) < l.length:=by omega
   have hsw:=hm.swp (i:=i) (j:=a + (k - n)) hki hkj
   have hti:=objs_tk0 hki
   have htj:=objs_tk0 hkj
   have hs1:=objs_sp (l:=m) (i:=i) m[a + (k - n)] hki
   have hs2:=objs_sp (l:=m.set i m[a + (k - n)]) (i:=a + (k - n)) m[i] (by simpa using hkj)
   generalize m[i]=pp at hsw hti hs2
   generalize m[a + (k - n)]=qq at hsw htj hs1 hs2
   refine Wd 78 98 (by decide) rfl mixed rfl<|qM rfl<|qM rfl<|qM rfl<|qM rfl<|qM rfl<|qZ rfl (iW _ (by omega))<|qM rfl<|qM rfl<|qM rfl<|qZ rfl (iW _ (by omega))<|Od rfl rfl (Ia rfl rfl rfl rfl ty30 ty40 (by omega))<|qG rfl ty40 rfl htj<|qM rfl<|qM rfl<|Od rfl rfl (Ia rfl rfl rfl rfl ty30 ty40 (by omega))<|qG rfl ty40 rfl hti<|Od rfl rfl (Ia rfl rfl rfl rfl ty30 ty40 (by omega))<|qS rfl ty40 hs1 rfl<|Od rfl rfl (Ia rfl rfl rfl rfl ty30 ty40 (by omega))<|qS rfl ty40 hs2 rfl<|Nl ⟨by kernel_rfl,(qW 102 105 rfl<|qM rfl<|qZ rfl (iW _ (by omega))<|qA rfl<|Nl ?_)⟩
   rw [show (i:Int) + 1=((i + 1:Nat):Int) from by omega]
   refine WL.rename [(0,0),(1,1)] 2 (by decide) ?_ ?_ (ihA ((i + 1),((m.set i qq).set (a + (k - n)) pp),(xs3 (xs2 (xs1 x)))) (show a + 8 - (i + 1) < a + 8 - i from by omega) (show a + 5≤(i + 1)∧SameO ((m.set i qq).set (a + (k - n)) pp) l from ⟨by omega,hsw⟩))
   ·exact aR (aR (aI (aR (aR (aI aM)))))
   ·exact aU (kR rfl) (aU (kP rfl (objsC_pure _)) aM)
 ·have g2:decide ((i:Int)≤((a:Nat):Int) + (n:Int) / 4 * 2 + 1)=false:=decide_eq_false (by omega)
  clear ihA
  refine Wq<|Wq<|qW 41 49 rfl<|qM rfl<|qM rfl<|qM rfl<|Od rfl rfl (LO.quo_in rfl rfl rfl (by omega) (by omega) (iW _ (by omega)))<|Od rfl rfl (LO.mul_in rfl rfl rfl (iW _ (by omega)))<|qZ rfl (iW _ (by omega))<|qZ rfl (iW _ (by omega))<|qLe rfl<|Nl<|Wo rfl ‹_›<|Wx ?_
  exact ⟨.inr rfl,_,(up mt 0 (some (objsC m))),RVs.nil,all_up rfl all_mt,m,hm,rfl,rfl⟩
theorem pdqS_any (l:List ObjR) (a b:Nat) (lim:Int) (h0:0 < l.length) (hab:a≤b) (h12:b≤a + 12) (hb:b≤l.length) (hl:l.length≤1000):∃ v H',AFn Tryz.prog 153 1 [.osl 0 0 l.length 6,.base (.int .i64 ((a:Nat):Int)),.base (.int .i64 ((b:Nat):Int)),.base (.int .i64 lim),cmpFn] (up mt 0 (some (objsC l))) v H'∧∃ m:List ObjR,SameO m l∧v=.tup []∧H'=(up mt 0 (some (objsC m))):=by
 refine AFn.ex Tryz.func153 rfl rfl (Nat.le_of_ble_eq_true rfl) ?_
 obtain ⟨_,_,hins,m,hm,rfl,rfl⟩:=insG_any l a b hab hb hl
 have hne:=objsC_ne h0
 have g1:decide ((b:Int) - (a:Int)≤12)=true:=decide_eq_true (by omega)
 unfold cmpFn at hins ⊢
 refine Wq<|qW 1 2 rfl<|qA rfl<|Nl<|Wq<|qW 6 7 rfl<|qA rfl<|Nl<|Wb<|W.rename [(0,0)] 1 (by decide) ?_ ?_ (W.loop_ind (α:=Nat) (fun x=>x) 1 (fun x=>up (up (up (up (up (up (up mt 0 (some (.osl 0 0 l.length 6))) 1 (some (.base (.int .i64 ((a:Nat):Int))))) 2 (some (.base (.int .i64 ((b:Nat):Int))))) 3 (some (.base (.int .i64 lim)))) 4 (some (.base (.func (.func 88) #[] #[])))) 10 (some (.base (.bool true)))) 11 (some (.base (.bool true)))) (fun x=>up mt 0 (some (objsC l))) (fun x=>x=0) 0 (show 0=0 from rfl) ?_)
 ·exact aR (aR (aR (aR (aR (aR (aI aM))))))
 ·exact aU (kP rfl (objsC_pure _)) aM
 rintro k hIA ihA
 try (dsimp only at hIA)
 try dsimp only
 clear ihA
 refine Wb<|Wq<|qW 11 15 rfl<|qM rfl<|qM rfl<|Od rfl rfl (LO.sub_in rfl rfl rfl (iW _ (by omega)))<|qA rfl<|Nl<|Wq<|Wq<|qW 19 21 rfl<|qM rfl<|qLe rfl<|Nl<|Wt rfl ‹_›<|Wq<|qW 25 30 rfl<|qM rfl<|qM rfl<|qM rfl<|qM rfl<|Od rfl rfl (C1 (fr:=[]) rfl rfl (hins) fok212 (.osl rfl rfl (.cons rfl (.pure rfl) (.cons rfl (.pure rfl) (.cons rfl (.pure rfl) .nil)))) rfl (objsC_pure _) (objsC_pure _) hne (by decide) rfl)<|Nl<|Wz ⟨.inl rfl,_,(up mt 0 (some (objsC m))),Rv,(aU rfl aM),?_⟩
 exact ⟨m,hm,rfl,rfl⟩
set_option maxHeartbeats 8000000 in
theorem pdqL_any (l:List ObjR) (a0 b0:Nat) (lim0:Int) (h0:0 < l.length) (hab0:a0≤b0) (h150:b0≤a0 + 15) (hb0:b0≤l.length) (hlim0:(b0:Int) - (a0:Int) - 11≤lim0∧lim0≤100) (hl:l.length≤1000):∃ v H',AFn Tryz.prog 153 1 [.osl 0 0 l.length 6,.base (.int .i64 ((a0:Nat):Int)),.base (.int .i64 ((b0:Nat):Int)),.base (.int .i64 lim0),cmpFn] (up mt 0 (some (objsC l))) v H'∧∃ m:List ObjR,SameO m l∧v=.tup []∧H'=(up mt 0 (some (objsC m))):=by
 refine AFn.ex Tryz.func153 rfl rfl (Nat.le_of_ble_eq_true rfl) ?_
 unfold cmpFn
 refine Wq<|qW 1 2 rfl<|qA rfl<|Nl<|Wq<|qW 6 7 rfl<|qA rfl<|Nl<|Wb<|W.rename [(0,0)] 1 (by decide) ?_ ?_ (W.loop_ind (α:=Nat × Nat × Int × Bool × Bool × List ObjR) (fun x=>x.2.1 - x.1) 1 (fun x=>up (up (up (up (up (up (up mt 0 (some (.osl 0 0 l.length 6))) 1 (some (.base (.int .i64 ((x.1:Nat):Int))))) 2 (some (.base (.int .i64 ((x.2.1:Nat):Int))))) 3 (some (.base (.int .i64 x.2.2.1)))) 4 (some (.base (.func (.func 88) #[] #[])))) 10 (some (.base (.bool x.2.2.2.1)))) 11 (some (.base (.bool x.2.2.2.2.1)))) (fun x=>up mt 0 (some (objsC x.2.2.2.2.2))) (fun x=>(x.1≤x.2.1∧x.2.1≤x.1 + 15∧x.2.1≤l.length)∧((x.2.1:Int) - (x.1:Int) - 11≤x.2.2.1∧x.2.2.1≤100∧(x.2.2.2.1=false→x.2.1≤x.1 + 14))∧SameO x.2.2.2.2.2 l) (a0,b0,lim0,true,true,l) (show (a0≤b0∧b0≤a0 + 15∧b0≤l.length)∧((b0:Int) - (a0:Int) - 11≤lim0∧lim0≤100∧(true=false→b0≤a0 + 14))∧SameO l l from ⟨⟨hab0,h150,hb0⟩,⟨hlim0.1,hlim0.2,fun h=>by cases h⟩,SameO.refl l⟩) ?_)
 ·exact aR (aR (aR (aR (aR (aR (aI aM))))))
 ·exact aU (kP rfl (objsC_pure _)) aM
 rintro ⟨a,b,lim,wb,wp,m⟩ hIA ihA
 try (dsimp only at hIA)
 try dsimp only
 obtain ⟨⟨hab,h15,hb⟩,⟨hl1,hl2,hwb⟩,hm⟩:=hIA
 have hml:=hm.len
 have hne:=objsC_ne (l:=m) (by omega)
 refine Wb ?_
 by_cases h12:b≤a + 12
 ·have g1:decide ((b:Int) - (a:Int)≤12)=true:=decide_eq_true (by omega)
  obtain ⟨_,_,hins,q,hq,rfl,rfl⟩:=insG_any m a b hab (by omega) (by omega)
  unfold cmpFn at hins
  rw [hml] at hins
  clear ihA
  refine Wq<|qW 11 15 rfl<|qM rfl<|qM rfl<|Od rfl rfl (LO.sub_in rfl rfl rfl (iW _ (by omega)))<|qA rfl<|Nl<|Wq<|Wq<|qW 19 21 rfl<|qM rfl<|qLe rfl<|Nl<|Wt rfl ‹_›<|Wq<|qW 25 30 rfl<|qM rfl<|qM rfl<|qM rfl<|qM rfl<|Od rfl rfl (C1 (fr:=[]) rfl rfl (hins) fok212 (.osl rfl rfl (.cons rfl (.pure rfl) (.cons rfl (.pure rfl) (.cons rfl (.pure rfl) .nil)))) rfl (objsC_pure _) (objsC_pure _) hne (by decide) rfl)<|Nl<|Wz ⟨.inl rfl,_,(up mt 0 (some (objsC q))),Rv,(aU rfl aM),?_⟩
  exact ⟨q,hq.trans hm,rfl,rfl⟩
 ·have g1:decide ((b:Int) - (a:Int)≤12)=false:=decide_eq_false (by omega)
  have g2:(lim == 0)=false:=by simp;omega
  refine Wq<|qW 11 15 rfl<|qM rfl<|qM rfl<|Od rfl rfl (LO.sub_in rfl rfl rfl (iW _ (by omega)))<|qA rfl<|Nl<|Wq<|Wq<|qW 19 21 rfl<|qM rfl<|qLe rfl<|Nl<|Wo rfl ‹_›<|Wu<|Wq<|Wq<|qW 34 36 rfl<|qM rfl<|qE rfl<|Nl<|Wo rfl ‹_›<|Wu<|Wq<|W.joinK (α:=Int × List ObjR) 1 (fun x=>[(3,.base (.int .i64 x.1))]) (fun x=>up mt 0 (some (objsC x.2))) (fun x=>((b:Int) - (a:Int) - 12≤x.1∧x.1≤100)∧SameO x.2 l) (.cons (t:=0) rfl (by exact .inr ⟨rfl,fun _ h=>by cases h⟩) (.cons (t:=1) rfl (by exact .inl rfl) (.cons (t:=2) rfl (by exact .inl rfl) (.cons (t:=4) rfl (by exact .inl rfl) (.cons (t:=10) rfl (by exact .inl rfl) (.cons (t:=11) rfl (by exact .inl rfl) (.cons (t:=12) rfl (by exact .inl rfl) .nil))))))) ?_ ?_
  rotate_left
  rintro ⟨lim,m⟩ hIJ
  try (dsimp only at hIJ)
  try dsimp only [joinT,baseT,List.cons_append,List.nil_append]
  rotate_right
  ·
   cases hwbq:wb with
   | true =>
    refine Wq<|qW 49 51 rfl<|qM rfl<|qO rfl<|Nl<|Wo rfl rfl<|Wu ?_
    intro yJ KJ hJ
    refine W.renameJ [(0,0)] 1 (by decide) ?_ ?_ (hJ (lim,m) (show ((b:Int) - (a:Int) - 12≤lim∧lim≤100)∧SameO m l from ⟨⟨by omega,by omega⟩,hm⟩))
    ·exact lC (lR rfl) (lC (lI rfl) (lC (lR rfl) (lC (lR rfl) (lC (lR rfl) (lC (lR rfl) (lC (lR rfl) (lC (lR rfl) lN)))))))
    ·exact aU (kP rfl (objsC_pure _)) aM
   | false =>
    have hb14:=hwb hwbq
    obtain ⟨_,_,hbr,q,hq,rfl,rfl⟩:=break_any m a b (by omega) (by omega) (by omega)
    unfold cmpFn at hbr
    rw [hml] at hbr
    refine Wq<|qW 49 51 rfl<|qM rfl<|qO rfl<|Nl<|Wt rfl rfl<|Wq<|qW 55 60 rfl<|qM rfl<|qM rfl<|qM rfl<|qM rfl<|Od rfl rfl (C1 (fr:=[]) rfl rfl (hbr) fok214 (.osl rfl rfl (.cons rfl (.pure rfl) (.cons rfl (.pure rfl) (.cons rfl (.pure rfl) .nil)))) rfl (objsC_pure _) (objsC_pure _) hne (by decide) rfl)<|Nl<|qW 64 67 rfl<|qM rfl<|Od rfl rfl (LO.sub_in rfl rfl rfl (iW _ (by omega)))<|qA rfl<|Nl ?_
    intro yJ KJ hJ
    refine W.renameJ [(0,0)] 1 (by decide) ?_ ?_ (hJ ((lim - 1),q) (show ((b:Int) - (a:Int) - 12≤(lim - 1)∧(lim - 1)≤100)∧SameO q l from ⟨⟨by omega,by omega⟩,hq.trans hm⟩))
    ·exact lC (lR rfl) (lC (lI rfl) (lC (lR rfl) (lC (lR rfl) (lC (lR rfl) (lC (lR rfl) (lC (lR rfl) (lC (lR rfl) lN)))))))
    ·exact aU (kP rfl (objsC_pure _)) aM
  clear hm hml hne hl1 hl2 g2
  obtain ⟨⟨hl1,hl2⟩,hm⟩:=hIJ
  have hml:=hm.len
  have hne:=objsC_ne (l:=m) (by omega)
  obtain ⟨_,_,hpv,p,hint,⟨⟨hp1,hp2⟩,hh⟩,rfl,rfl⟩:=pivot_any m a b (by omega) (by omega) (by omega) (by omega)
  unfold cmpFn at hpv
  rw [hml] at hpv
  have g3:(hint == 2)=false:=by simp;omega
  obtain ⟨_,_,hpa,e,rfl,rfl⟩:=partial_any m a b (by omega) (by omega) (by omega) (by omega)
  unfold cmpFn at hpa
  rw [hml] at hpa
  refine Wq<|qW 71 81 rfl<|qM rfl<|qM rfl<|qM rfl<|qM rfl<|Od rfl rfl (C1 (fr:=[]) rfl rfl (hpv) fok215 (.osl rfl rfl (.cons rfl (.pure rfl) (.cons rfl (.pure rfl) (.cons rfl (.pure rfl) .nil)))) rfl (objsC_pure _) (objsC_pure _) hne (by decide) rfl)<|qM rfl<|qX rfl<|qX rfl<|qA rfl<|qA rfl<|Nl<|Wq<|Wq<|qW 85 87 rfl<|qM rfl<|qE rfl<|Nl<|Wo rfl ‹_›<|Wu<|Wq<|W.joinK (α:=Nat) 1 (fun x=>[(0,.osl 0 0 l.length 6)]) (fun x=>up mt 0 (some (objsC m))) (fun x=>x=0) (.cons (t:=1) rfl (by exact .inl rfl) (.cons (t:=2) rfl (by exact .inl rfl) (.cons (t:=3) rfl (by exact .inl rfl) (.cons (t:=4) rfl (by exact .inl rfl) (.cons (t:=10) rfl (by exact .inl rfl) (.cons (t:=11) rfl (by exact .inl rfl) (.cons (t:=12) rfl (by exact .inl rfl) (.cons (t:=13) rfl (by exact .inl rfl) .nil)))))))) ?_ ?_
  rotate_left
  rintro z hIK
  try (dsimp only at hIK)
  try dsimp only [joinT,baseT,List.cons_append,List.nil_append]
  rotate_right
  ·
   rcases (show (wb=true∧wp=true∧(hint == 1)=true)∨((wb && wp && (hint == 1))=false) by cases wb<;>cases wp<;>cases (hint == 1)<;>simp) with ⟨rfl,rfl,g4⟩|g4
   ·
    refine Wq<|qW 116 124 rfl<|qM rfl<|qM rfl<|gM rfl rfl<|qT rfl rfl rfl<|qM rfl<|gM rfl rfl<|gE rfl rfl<|qT rfl rfl rfl<|Nl<|Wt rfl ‹_›<|Wq<|qW 128 133 rfl<|qM rfl<|qM rfl<|qM rfl<|qM rfl<|Od rfl rfl (C1 (fr:=[]) rfl rfl (hpa) fok217 (.osl rfl rfl (.cons rfl (.pure rfl) (.cons rfl (.pure rfl) (.cons rfl (.pure rfl) .nil)))) rfl (objsC_pure _) (objsC_pure _) hne (by decide) rfl)<|Nl ?_
    cases e with
    | true =>
     refine Wt rfl rfl<|Wz ⟨.inl rfl,_,(up mt 0 (some (objsC m))),Rv,(aU rfl aM),?_⟩
     exact ⟨m,hm,rfl,rfl⟩
    | false =>
     refine Wo rfl rfl<|Wu ?_
     intro yJ KJ hJ
     refine W.renameJ [(0,0)] 1 (by decide) ?_ ?_ (hJ 0 (show 0=0 from rfl))
     ·exact lC (lI rfl) (lC (lR rfl) (lC (lR rfl) (lC (lR rfl) (lC (lR rfl) (lC (lR rfl) (lC (lR rfl) (lC (lR rfl) (lC (lR rfl) lN))))))))
     ·exact aU (kP rfl (objsC_pure _)) aM
   ·
    cases wb with
    | false =>
     refine Wq<|qW 116 124 rfl<|qM rfl<|qM rfl<|qD rfl rfl rfl<|qP rfl rfl rfl<|qM rfl<|qD rfl rfl rfl<|qD rfl rfl rfl<|qP rfl rfl rfl<|Nl<|Wo rfl rfl<|Wu ?_
     intro yJ KJ hJ
     refine W.renameJ [(0,0)] 1 (by decide) ?_ ?_ (hJ 0 (show 0=0 from rfl))
     ·exact lC (lI rfl) (lC (lR rfl) (lC (lR rfl) (lC (lR rfl) (lC (lR rfl) (lC (lR rfl) (lC (lR rfl) (lC (lR rfl) (lC (lR rfl) lN))))))))
     ·exact aU (kP rfl (objsC_pure _)) aM
    | true =>
     cases wp with
     | false =>
      refine Wq<|qW 116 124 rfl<|qM rfl<|qM rfl<|gM rfl rfl<|qT rfl rfl rfl<|qM rfl<|qD rfl rfl rfl<|qD rfl rfl rfl<|qP rfl rfl rfl<|Nl<|Wo rfl rfl<|Wu ?_
      intro yJ KJ hJ
      refine W.renameJ [(0,0)] 1 (by decide) ?_ ?_ (hJ 0 (show 0=0 from rfl))
      ·exact lC (lI rfl) (lC (lR rfl) (lC (lR rfl) (lC (lR rfl) (lC (lR rfl) (lC (lR rfl) (lC (lR rfl) (lC (lR rfl) (lC (lR rfl) lN))))))))
      ·exact aU (kP rfl (objsC_pure _)) aM
     | true =>
      have g5:(hint == 1)=false:=g4
      refine Wq<|qW 116 124 rfl<|qM rfl<|qM rfl<|gM rfl rfl<|qT rfl rfl rfl<|qM rfl<|gM rfl rfl<|gE rfl rfl<|qT rfl rfl rfl<|Nl<|Wo rfl ‹_›<|Wu ?_
      intro yJ KJ hJ
      refine W.renameJ [(0,0)] 1 (by decide) ?_ ?_ (hJ 0 (show 0=0 from rfl))
      ·exact lC (lI rfl) (lC (lR rfl) (lC (lR rfl) (lC (lR rfl) (lC (lR rfl) (lC (lR rfl) (lC (lR rfl) (lC (lR rfl) (lC (lR rfl) lN))))))))
      ·exact aU (kP rfl (objsC_pure _)) aM
  clear hpv hpa
  have hrest:True:=trivial
  refine Wq<|W.joinK (α:=Nat) 1 (fun x=>[(0,.osl 0 0 l.length 6)]) (fun x=>up mt 0 (some (objsC m))) (fun x=>x=0) (.cons (t:=1) rfl (by exact .inl rfl) (.cons (t:=2) rfl (by exact .inl rfl) (.cons (t:=3) rfl (by exact .inl rfl) (.cons (t:=4) rfl (by exact .inl rfl) (.cons (t:=12) rfl (by exact .inl rfl) (.cons (t:=13) rfl (by exact .inl rfl) .nil)))))) ?_ ?_
  rotate_left
  rintro z hIM
  try (dsimp only at hIM)
  try dsimp only [joinT,baseT,List.cons_append,List.nil_append]
  rotate_right
  ·
   by_cases ha0:0 < a
   ·
    have g6:decide ((a:Int) > 0)=true:=decide_eq_true (by omega)
    obtain ⟨k,hk⟩:∃ k,a=k + 1:=⟨a - 1,by omega⟩
    have hak:(a:Int) - 1=(k:Int):=by omega
    have hkm:k < m.length:=by omega
    have hpm:p < m.length:=by omega
    have hkl:k < l.length:=by omega
    have hpl:p < l.length:=by omega
    have htk:=objs_tk0 hkm
    have htp:=objs_tk0 hpm
    have hcm:=compare_any m[k] m[p]
    generalize m[k]=xx at htk hcm
    generalize m[p]=yy at htp hcm
    cases g7:(!decide (cmpO xx yy < 0)) with
    | true =>
     obtain ⟨_,_,hpe,r,q,⟨hr1,hr2,hq⟩,rfl,rfl⟩:=parteq_any m a b p hp1 hp2 (by omega) (by omega) (by omega)
     unfold cmpFn at hpe
     rw [hml] at hpe
     refine Wq<|Wd 137 154 (by decide) rfl mixed rfl<|qM rfl<|qGt rfl<|qM rfl<|gM rfl ‹_›<|gM rfl ‹_›<|gM rfl ‹_›<|qU rfl ‹_› rfl (LO.sub_in rfl rfl rfl (iW _ (by omega)))<|qU rfl ‹_› rfl (Ia rfl rfl rfl hak ty30 ty40 (by omega))<|gG rfl ‹_› ty40 rfl htk<|gM rfl ‹_›<|gM rfl ‹_›<|qU rfl ‹_› rfl (Ia rfl rfl rfl rfl ty30 ty40 (by omega))<|gG rfl ‹_› ty40 rfl htp<|qU rfl ‹_› rfl (LO.callF (fr:=[]) rfl rfl hcm fok88 (.cons rfl (.pure rfl) (.cons rfl (.pure rfl) .nil)) rfl)<|gK rfl ‹_›<|gO rfl ‹_›<|qT rfl ‹_› rfl<|Nl ⟨by kernel_rfl,(Wt rfl ‹_›<|Wq<|qW 158 165 rfl<|qM rfl<|qM rfl<|qM rfl<|qM rfl<|qM rfl<|Od rfl rfl (C1 (fr:=[]) rfl rfl (hpe) fok218 (.osl rfl rfl (.cons rfl (.pure rfl) (.cons rfl (.pure rfl) (.cons rfl (.pure rfl) (.cons rfl (.pure rfl) .nil))))) rfl (objsC_pure _) (objsC_pure _) hne (by decide) rfl)<|qA rfl<|Nl<|Wq<|qW 169 171 rfl<|qM rfl<|qA rfl<|Nl<|Wx ?_)⟩
     refine WL.rename [(0,0)] 1 (by decide) ?_ ?_ (ihA (r,b,lim,wb,wp,q) (show b - r < b - a from by omega) (show (r≤b∧b≤r + 15∧b≤l.length)∧((b:Int) - (r:Int) - 11≤lim∧lim≤100∧(wb=false→b≤r + 14))∧SameO q l from ⟨⟨by omega,by omega,by omega⟩,⟨by omega,by omega,fun _=>by omega⟩,hq.trans hm⟩))
     ·exact aR (aR (aR (aR (aR (aR (aI aM))))))
     ·exact aU (kP rfl (objsC_pure _)) aM
    | false =>
     refine Wq<|Wd 137 154 (by decide) rfl mixed rfl<|qM rfl<|qGt rfl<|qM rfl<|gM rfl ‹_›<|gM rfl ‹_›<|gM rfl ‹_›<|qU rfl ‹_› rfl (LO.sub_in rfl rfl rfl (iW _ (by omega)))<|qU rfl ‹_› rfl (Ia rfl rfl rfl hak ty30 ty40 (by omega))<|gG rfl ‹_› ty40 rfl htk<|gM rfl ‹_›<|gM rfl ‹_›<|qU rfl ‹_› rfl (Ia rfl rfl rfl rfl ty30 ty40 (by omega))<|gG rfl ‹_› ty40 rfl htp<|qU rfl ‹_› rfl (LO.callF (fr:=[]) rfl rfl hcm fok88 (.cons rfl (.pure rfl) (.cons rfl (.pure rfl) .nil)) rfl)<|gK rfl ‹_›<|gO rfl ‹_›<|qT rfl ‹_› rfl<|Nl ⟨by kernel_rfl,(Wo rfl ‹_›<|Wu ?_)⟩
     intro yJ KJ hJ
     refine W.renameJ [(0,0)] 1 (by decide) ?_ ?_ (hJ 0 (show 0=0 from rfl))
     ·exact lC (lI rfl) (lC (lR rfl) (lC (lR rfl) (lC (lR rfl) (lC (lR rfl) (lC (lR rfl) (lC (lR rfl) lN))))))
     ·exact aU (kP rfl (objsC_pure _)) aM
   ·
    have g6:decide ((a:Int) > 0)=false:=decide_eq_false (by omega)
    refine Wq<|Wd 137 154 (by decide) rfl mixed rfl<|qM rfl<|qGt rfl<|qM rfl<|qD rfl ‹_› rfl<|qD rfl ‹_› rfl<|qD rfl ‹_› rfl<|qD rfl ‹_› rfl<|qD rfl ‹_› rfl<|qD rfl ‹_› rfl<|qD rfl ‹_› rfl<|qD rfl ‹_› rfl<|qD rfl ‹_› rfl<|qD rfl ‹_› rfl<|qD rfl ‹_› rfl<|qD rfl ‹_› rfl<|qD rfl ‹_› rfl<|qP rfl ‹_› rfl<|Nl ⟨by kernel_rfl,(Wo rfl rfl<|Wu ?_)⟩
    intro yJ KJ hJ
    refine W.renameJ [(0,0)] 1 (by decide) ?_ ?_ (hJ 0 (show 0=0 from rfl))
    ·exact lC (lI rfl) (lC (lR rfl) (lC (lR rfl) (lC (lR rfl) (lC (lR rfl) (lC (lR rfl) (lC (lR rfl) lN))))))
    ·exact aU (kP rfl (objsC_pure _)) aM
  obtain ⟨_,_,hpt,r,q,e2,⟨hr1,hr2,hq⟩,rfl,rfl⟩:=part_any m a b p hp1 hp2 (by omega) (by omega) (by omega)
  unfold cmpFn at hpt
  rw [hml] at hpt
  have hql:=hq.len
  have hneq:=objsC_ne (l:=q) (by omega)
  refine Wq<|qW 175 186 rfl<|qM rfl<|qM rfl<|qM rfl<|qM rfl<|qM rfl<|Od rfl rfl (C1 (fr:=[]) rfl rfl (hpt) fok219 (.osl rfl rfl (.cons rfl (.pure rfl) (.cons rfl (.pure rfl) (.cons rfl (.pure rfl) (.cons rfl (.pure rfl) .nil))))) rfl (objsC_pure _) (objsC_pure _) hne (by decide) rfl)<|qM rfl<|qX rfl<|qX rfl<|qA rfl<|qA rfl<|Nl<|Wq<|qW 190 192 rfl<|qM rfl<|qA rfl<|Nl<|Wq<|qW 196 204 rfl<|qM rfl<|qM rfl<|Od rfl rfl (LO.sub_in rfl rfl rfl (iW _ (by omega)))<|qM rfl<|qM rfl<|Od rfl rfl (LO.sub_in rfl rfl rfl (iW _ (by omega)))<|qA rfl<|qA rfl<|Nl<|Wq<|qW 208 211 rfl<|qM rfl<|Od rfl rfl (LO.quo_in rfl rfl rfl (by omega) (by omega) (iW _ (by omega)))<|qA rfl<|Nl ?_
  by_cases hlr:r - a < b - r
  ·have g8:decide ((r:Int) - (a:Int) < (b:Int) - (r:Int))=true:=decide_eq_true (by omega)
   obtain ⟨_,_,hps,q2,hq2,rfl,rfl⟩:=pdqS_any q a r lim (by omega) hr1 (by omega) (by omega) (by omega)
   unfold cmpFn at hps
   rw [hql,hml] at hps
   refine Wq<|qW 215 218 rfl<|qM rfl<|qM rfl<|qK rfl<|Nl<|Wt rfl ‹_›<|Wq<|qW 222 226 rfl<|qM rfl<|qM rfl<|qGe rfl<|qA rfl<|Nl ?_
   generalize decide ((r:Int) - (a:Int) ≥ ((b:Int) - (a:Int)) / 8)=wb2
   refine Wq<|qW 230 236 rfl<|qM rfl<|qM rfl<|qM rfl<|qM rfl<|qM rfl<|Od rfl rfl (C1 (fr:=[]) rfl rfl (hps) fok153 (.osl rfl rfl (.cons rfl (.pure rfl) (.cons rfl (.pure rfl) (.cons rfl (.pure rfl) (.cons rfl (.pure rfl) .nil))))) rfl (objsC_pure _) (objsC_pure _) hneq (by decide) rfl)<|Nl<|qW 240 243 rfl<|qM rfl<|qZ rfl (iW _ (by omega))<|qA rfl<|Nl ?_
   rw [show (r:Int) + 1=((r + 1:Nat):Int) from by omega]
   refine WL.rename [(0,0)] 1 (by decide) ?_ ?_ (ihA ((r + 1),b,lim,wb2,e2,q2) (show b - (r + 1) < b - a from by omega) (show ((r + 1)≤b∧b≤(r + 1) + 15∧b≤l.length)∧((b:Int) - ((r + 1):Int) - 11≤lim∧lim≤100∧(wb2=false→b≤(r + 1) + 14))∧SameO q2 l from ⟨⟨by omega,by omega,by omega⟩,⟨by omega,by omega,fun _=>by omega⟩,hq2.trans (hq.trans hm)⟩))
   ·exact aR (aR (aR (aR (aR (aR (aI aM))))))
   ·exact aU (kP rfl (objsC_pure _)) aM
  ·have g8:decide ((r:Int) - (a:Int) < (b:Int) - (r:Int))=false:=decide_eq_false (by omega)
   have hr1n:(r:Int) + 1=((r + 1:Nat):Int):=by omega
   obtain ⟨_,_,hps,q2,hq2,rfl,rfl⟩:=pdqS_any q (r + 1) b lim (by omega) (by omega) (by omega) (by omega) (by omega)
   unfold cmpFn at hps
   rw [hql,hml,← hr1n] at hps
   refine Wq<|qW 215 218 rfl<|qM rfl<|qM rfl<|qK rfl<|Nl<|Wo rfl ‹_›<|Wq<|qW 247 251 rfl<|qM rfl<|qM rfl<|qGe rfl<|qA rfl<|Nl ?_
   generalize decide ((b:Int) - (r:Int) ≥ ((b:Int) - (a:Int)) / 8)=wb2
   refine Wq<|qW 255 262 rfl<|qM rfl<|qM rfl<|qZ rfl (iW _ (by omega))<|qM rfl<|qM rfl<|qM rfl<|Od rfl rfl (C1 (fr:=[]) rfl rfl (hps) fok153 (.osl rfl rfl (.cons rfl (.pure rfl) (.cons rfl (.pure rfl) (.cons rfl (.pure rfl) (.cons rfl (.pure rfl) .nil))))) rfl (objsC_pure _) (objsC_pure _) hneq (by decide) rfl)<|Nl<|qW 266 268 rfl<|qM rfl<|qA rfl<|Nl ?_
   refine WL.rename [(0,0)] 1 (by decide) ?_ ?_ (ihA (a,r,lim,wb2,e2,q2) (show r - a < b - a from by omega) (show (a≤r∧r≤a + 15∧r≤l.length)∧((r:Int) - (a:Int) - 11≤lim∧lim≤100∧(wb2=false→r≤a + 14))∧SameO q2 l from ⟨⟨by omega,by omega,by omega⟩,⟨by omega,by omega,fun _=>by omega⟩,hq2.trans (hq.trans hm)⟩))
   ·exact aR (aR (aR (aR (aR (aR (aI aM))))))
   ·exact aU (kP rfl (objsC_pure _)) aM
theorem sortO_all (l:List ObjR) (h0:0 < l.length) (hl:l.length≤15):∃ v H',AFn Tryz.prog 87 1 [.osl 0 0 l.length 6,cmpFn] (up mt 0 (some (objsC l))) v H'∧∃ m:List ObjR,SameO m l∧v=.tup []∧H'=up mt 0 (some (objsC m)):=by
 by_cases h12:l.length≤12
 ·exact sortO_any l h0 h12
 ·refine AFn.ex Tryz.func87 rfl rfl (Nat.le_of_ble_eq_true rfl) ?_
  have hlen:AFn Tryz.prog 144 0 [.base (.int .u64 (l.length:Int))] mt (.base (.int .i64 4)) mt:=by
   rcases (show l.length=13∨l.length=14∨l.length=15 by omega) with h|h|h
   ·rw [h];exact len13
   ·rw [h];exact len14
   ·rw [h];exact len15
  obtain ⟨_,_,hpd,m,hm,rfl,rfl⟩:=pdqL_any l 0 l.length 4 h0 (Nat.zero_le _) (by omega) (Nat.le_refl _) (by omega) (by omega)
  have hne:=objsC_ne h0
  have e0:(((0:Nat):Int))=0:=rfl
  rw [e0] at hpd
  unfold cmpFn at hpd ⊢
  refine Wq<|qW 1 4 rfl<|qM rfl<|Od rfl rfl (LO.len rfl rfl ty30)<|qA rfl<|Nl<|qW 8 15 rfl<|qM rfl<|qM rfl<|qM rfl<|Od rfl rfl (Ci rfl rfl ty3 ty151 (IntWalk.u64_in _ (by omega)))<|qY rfl (hlen) fok144 rfl<|qM rfl<|Od rfl rfl (C1 (fr:=[]) rfl rfl (hpd) fok153 (.osl rfl rfl (.cons rfl (.pure rfl) (.cons rfl (.pure rfl) (.cons rfl (.pure rfl) (.cons rfl (.pure rfl) .nil))))) rfl (objsC_pure _) (objsC_pure _) hne (by decide) rfl)<|Nl ?_
  exact ⟨.inr rfl,_,up mt 0 (some (objsC m)),RVs.nil,all_up rfl all_mt,m,hm,rfl,rfl⟩
theorem ordered_pos15 (l:List ObjR) (h0:0 < l.length) (hl:l.length≤15):∃ v H',AFn Tryz.prog 28 0 [.isl (objsC l) l.length] mt v H'∧∃ m:List ObjR,(SameM m l∧m.length≤l.length)∧v=.isl (objsC m) m.length∧H'=mt:=by
 refine AFn.ex Tryz.func28 rfl rfl (Nat.le_of_ble_eq_true rfl) ?_
 have h1:=oclone_any l h0 (by omega)
 obtain ⟨_,_,h2,m,hm,rfl,rfl⟩:=sortO_all l h0 hl
 have hml:=hm.len
 obtain ⟨_,_,h3,q,⟨hq,hql⟩,rfl,rfl⟩:=compactO_any m (by omega) (by omega)
 rw [hml] at h3
 have hne:=objsC_ne h0
 have hne2:=objsC_ne (l:=m) (by omega)
 unfold cmpFn at h2
 refine Wq<|qW 0 1 rfl<|qA rfl<|Nl<|Wq<|qW 5 8 rfl<|qM rfl<|Od rfl rfl (LO.callO (fr:=[]) rfl rfl (h1) fok86 (.cons rfl (.pure rfl) .nil) (objsC_pure _) (by decide))<|qA rfl<|Nl<|Wq<|qW 12 14 rfl<|qM rfl<|Od rfl rfl (C1 (fr:=[]) rfl rfl (h2) fok87 (.osl rfl rfl (.cons rfl (.pure rfl) .nil)) rfl (objsC_pure _) (objsC_pure _) hne (by decide) rfl)<|Nl<|Wq<|qW 18 21 rfl<|qM rfl<|Od rfl rfl (LO.callD (fr:=[]) rfl rfl (h3) fok89 (.osl rfl rfl .nil) rfl (objsC_pure _) rfl hne2 (by decide) (by decide) (by decide))<|qA rfl<|Nl<|Wz ⟨.inl rfl,_,mt,(Rc (Rt0 rfl) Rv),aM,?_⟩
 exact ⟨q,⟨fun o=>(hq o).trans (hm.mem o),by omega⟩,rfl,rfl⟩
theorem ordered15 (l:List ObjR) (hl:l.length≤15):∃ m:List ObjR,(SameM m l∧m.length≤l.length)∧AFn Tryz.prog 28 0 [.isl (objsC l) l.length] mt (.isl (objsC m) m.length) mt:=by
 by_cases h0:0 < l.length
 ·obtain ⟨_,_,h,m,hm,rfl,rfl⟩:=ordered_pos15 l h0 hl
  exact ⟨m,hm,h⟩
 ·obtain rfl:l=[]:=List.length_eq_zero_iff.1 (by omega)
  exact ⟨[],⟨fun _=>Iff.rfl,Nat.le_refl _⟩,ordered_nil⟩
end Go.Proofs.YtbfnfgpjgdbmeaaGreatDoor
