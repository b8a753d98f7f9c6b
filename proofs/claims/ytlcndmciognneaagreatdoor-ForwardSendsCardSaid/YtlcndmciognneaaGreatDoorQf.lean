/-
  Check sums, addresses from bytes: both texts. The bytes of an address: both texts.
-/
import Derived.Test.YtlcndmciognneaaGreatDoorQd
import Derived.Test.YtlcndmciognneaaGreatDoorMab
namespace Go.Proofs.YtlcndmciognneaaGreatDoor
open Go.RowKit
theorem i64_and {n:Int} (h0:0≤n) (h1:n < 9223372036854775808):bitV .and .i64 n 65535=n % 65536:=by
 obtain ⟨k,rfl⟩:=Int.eq_ofNat_of_zero_le h0
 have e1:(BitVec.ofInt IntKind.i64.bits (k:Int) &&& BitVec.ofInt IntKind.i64.bits 65535).toNat=k % 65536:=by
  rw [BitVec.toNat_and]
  have a1:(BitVec.ofInt IntKind.i64.bits (k:Int)).toNat=k:=by
   simp only [BitVec.toNat_ofInt,IntKind.bits];omega
  have a2:(BitVec.ofInt IntKind.i64.bits (65535:Int)).toNat=2 ^ 16 - 1:=by decide
  rw [a1,a2,Nat.and_two_pow_sub_one_eq_mod]
 show IntKind.i64.wrap ((BitVec.ofInt IntKind.i64.bits (k:Int) &&& BitVec.ofInt IntKind.i64.bits 65535).toNat:Nat)=_
 rw [e1,IntWalk.i64_in _ (by omega)]
 omega
theorem fb_one (p:Int × Int) (x:Int):bitV .or .u64 (IntKind.u64.wrap (p.1 * 2 ^ (min (8:Int).toNat IntKind.u64.bits))) (p.2.fdiv (2 ^ (min (56:Int).toNat IntKind.u64.bits)))=(fbStep p x).1:=by
 rw [show (2:Int) ^ (min (56:Int).toNat IntKind.u64.bits)=72057594037927936 from by decide,Int.fdiv_eq_ediv_of_nonneg _ (by decide)]
 rfl
theorem sum_any (l:List Int) (hB:IsB l) (hl:l.length≤1000000):AFn Tryz.prog 177 0 [.isl (bytesC l) l.length] mt (.base (.int .u16 (sumL l))) mt:=by
 refine AFn.eq Tryz.func177 rfl rfl (Nat.le_of_ble_eq_true rfl)<|Wq<|qW 0 1 rfl<|qA rfl<|Nl<|Wq<|qW 5 6 rfl<|qA rfl<|Nl<|Wq<|Wq<|qW 10 13 rfl<|qM rfl<|qH rfl ty24<|qM rfl<|Nl<|Wb<|W.loop_keep (α:=Nat) (fun x=>l.length - x) 0 (fun x=>[(3,.base (.int .i64 (accN (gB l) x))),(8,.base (.int .i64 (x:Int)))]) (fun x=>mt) (fun x=>x≤l.length) 0 [] (.cons (t:=6) rfl (by exact .inl rfl) (.cons (t:=7) rfl (by exact .inl rfl) .nil)) (show 0≤l.length from Nat.zero_le _) (by decide) ?_ ?_ ?_
 ·exact lC (lR rfl) (lC (lR rfl) lN)
 ·exact aM
 rintro i hIA ihA
 try (dsimp only at hIA)
 try dsimp only [baseT,List.cons_append,List.nil_append]
 have hbd:=accN_bd (gB l) i (fun j=>hB.at j)
 by_cases hc:i < l.length
 ·have g1:decide ((i:Int) < (l.length:Int))=true:=decide_eq_true (by omega)
  have hx:=hB.at i
  have hs:accN (gB l) (i + 1)=accN (gB l) i + (if i % 2=0 then gB l i * 256 else gB l i):=rfl
  obtain ⟨x,hxe⟩:∃ x,gB l i=x:=⟨_,rfl⟩
  have hat:=by_at hc
  rw [hxe] at hx hs hat
  have hsh:IntKind.i64.wrap (x * 2 ^ (min (8:Int).toNat IntKind.i64.bits))=x * 256:=by
   rw [show (2:Int) ^ (min (8:Int).toNat IntKind.i64.bits)=256 from by decide];exact IntWalk.i64_in _ (by omega)
  refine Wq<|qW 17 18 rfl<|qK rfl<|Nl<|Wq<|Wt rfl ‹_›<|Wu<|Wq<|Wb<|Wq<|qW 22 27 rfl<|qM rfl<|qJ rfl rfl ty24 ty5 (by omega)<|Od rfl rfl (Li rfl rfl hat ty5 rfl)<|qA rfl<|qA rfl<|Nl ?_
  by_cases hev:i % 2=0
  ·have g2:((i:Int) % 2 == 0)=true:=by simp;omega
   rw [if_pos hev] at hs
   refine Wq<|qW 31 34 rfl<|qM rfl<|Od rfl rfl (LO.rem_in rfl rfl rfl (by omega) (by omega))<|qE rfl<|Nl<|Wt rfl ‹_›<|qW 38 44 rfl<|qM rfl<|qM rfl<|Od rfl rfl (Ci rfl rfl ty5 ty3 (iW _ (by omega)))<|Od rfl rfl (LO.shl rfl rfl rfl (by omega)) ?_
   rw [hsh]
   refine qZ rfl (iW _ (by omega))<|qA rfl<|Nl ?_
   rw [← hs]
   refine qW 57 59 rfl<|qZ rfl (iW _ (by omega))<|qM rfl<|Nl<|WL.renameL [] 0 (by decide) ?_ ?_ (ihA (i + 1) (show l.length - (i + 1) < l.length - i from by omega) (show (i + 1)≤l.length from by omega))
   ·exact lC (lR rfl) (lC (lR rfl) (lC (lR rfl) (lC (lR rfl) lN)))
   ·exact aM
  ·have g2:((i:Int) % 2 == 0)=false:=by simp;omega
   rw [if_neg hev] at hs
   refine Wq<|qW 31 34 rfl<|qM rfl<|Od rfl rfl (LO.rem_in rfl rfl rfl (by omega) (by omega))<|qE rfl<|Nl<|Wo rfl ‹_›<|qW 48 53 rfl<|qM rfl<|qM rfl<|Od rfl rfl (Ci rfl rfl ty5 ty3 (iW _ (by omega)))<|qZ rfl (iW _ (by omega))<|qA rfl<|Nl ?_
   rw [← hs]
   refine qW 57 59 rfl<|qZ rfl (iW _ (by omega))<|qM rfl<|Nl<|WL.renameL [] 0 (by decide) ?_ ?_ (ihA (i + 1) (show l.length - (i + 1) < l.length - i from by omega) (show (i + 1)≤l.length from by omega))
   ·exact lC (lR rfl) (lC (lR rfl) (lC (lR rfl) (lC (lR rfl) lN)))
   ·exact aM
 ·have g1:decide ((i:Int) < (l.length:Int))=false:=decide_eq_false (by omega)
  refine Wq<|qW 17 18 rfl<|qK rfl<|Nl<|Wq<|Wo rfl ‹_›<|Wx ?_
  obtain rfl:i=l.length:=by omega
  clear ihA
  refine Wq<|Wb<|W.loop_keep (α:=Int) (fun x=>x.toNat) 0 (fun x=>[(3,.base (.int .i64 x))]) (fun x=>mt) (fun x=>(0≤x∧x≤65280000000)∧foldS x=foldS (accL l)) (accN (gB l) l.length) [] .nil (show (0≤(accN (gB l) l.length)∧(accN (gB l) l.length)≤65280000000)∧foldS (accN (gB l) l.length)=foldS (accL l) from ⟨by omega,rfl⟩) (by decide) ?_ ?_ ?_
  ·exact lC (lR rfl) lN
  ·exact aM
  rintro n hIB ihB
  try (dsimp only at hIB)
  try dsimp only [baseT,List.cons_append,List.nil_append]
  obtain ⟨hn,hf⟩:=hIB
  by_cases hbig:65535 < n
  ·have g3:decide (n > 65535)=true:=decide_eq_true hbig
   have h1:n.fdiv (2 ^ (min (16:Int).toNat IntKind.i64.bits))=n / 65536:=by
    rw [show (2:Int) ^ (min (16:Int).toNat IntKind.i64.bits)=65536 from by decide];exact Int.fdiv_eq_ediv_of_nonneg _ (by decide)
   have h2:bitV .and .i64 n 65535=n % 65536:=i64_and hn.1 (by omega)
   refine Wq<|Wq<|qW 63 65 rfl<|qM rfl<|qGt rfl<|Nl<|Wt rfl ‹_›<|Wu<|Wb<|qW 69 75 rfl<|qM rfl<|Od rfl rfl (LO.shr rfl rfl rfl (by omega))<|qM rfl<|Od rfl rfl (LO.and rfl rfl rfl) ?_
   rw [h1,h2]
   refine qZ rfl (iW _ (by omega))<|qA rfl<|Nl<|WL.renameL [] 0 (by decide) ?_ ?_ (ihB (n / 65536 + n % 65536) (show (n / 65536 + n % 65536).toNat < n.toNat from by omega) (show (0≤(n / 65536 + n % 65536)∧(n / 65536 + n % 65536)≤65280000000)∧foldS (n / 65536 + n % 65536)=foldS (accL l) from ⟨by omega,by rw [foldS_step hbig];exact hf⟩))
   ·exact lC (lR rfl) lN
   ·exact aM
  ·have g3:decide (n > 65535)=false:=decide_eq_false hbig
   refine Wq<|Wq<|qW 63 65 rfl<|qM rfl<|qGt rfl<|Nl<|Wo rfl ‹_›<|Wx<|Wq<|qW 79 83 rfl<|qM rfl<|Od rfl rfl (LO.sub_in rfl rfl rfl (iW _ (by omega)))<|Od rfl rfl (Ci rfl rfl ty3 ty133 (IntWalk.u16_in _ (by omega)))<|qA rfl<|Nl<|Wz ⟨.inl rfl,_,mt,Rc (Rt rfl) (Rv),aM,?_⟩
   refine ⟨?_,rfl⟩
   rw [foldS_small hn.1 (by omega)] at hf
   show AV.base (.int .u16 (65535 - n))=_
   rw [hf];rfl
theorem sumX_any (l:List Int) (hB:IsB l) (hl:l.length≤1000000):AFn Tryz.prog 76 0 [.isl (bytesC l) l.length] mt (.base (.int .u16 (sumL l))) mt:=by
 refine AFn.eq Tryz.func76 rfl rfl (Nat.le_of_ble_eq_true rfl)<|Wq<|qW 0 1 rfl<|qA rfl<|Nl<|Wq<|qW 5 6 rfl<|qA rfl<|Nl<|Wq<|Wq<|qW 10 13 rfl<|qM rfl<|qH rfl ty24<|qM rfl<|Nl<|Wb<|W.loop_keep (α:=Nat) (fun x=>l.length - x) 0 (fun x=>[(3,.base (.int .i64 (accN (gB l) x))),(8,.base (.int .i64 (x:Int)))]) (fun x=>mt) (fun x=>x≤l.length) 0 [] (.cons (t:=6) rfl (by exact .inl rfl) (.cons (t:=7) rfl (by exact .inl rfl) .nil)) (show 0≤l.length from Nat.zero_le _) (by decide) ?_ ?_ ?_
 ·exact lC (lR rfl) (lC (lR rfl) lN)
 ·exact aM
 rintro i hIA ihA
 try (dsimp only at hIA)
 try dsimp only [baseT,List.cons_append,List.nil_append]
 have hbd:=accN_bd (gB l) i (fun j=>hB.at j)
 by_cases hc:i < l.length
 ·have g1:decide ((i:Int) < (l.length:Int))=true:=decide_eq_true (by omega)
  have hx:=hB.at i
  have hs:accN (gB l) (i + 1)=accN (gB l) i + (if i % 2=0 then gB l i * 256 else gB l i):=rfl
  obtain ⟨x,hxe⟩:∃ x,gB l i=x:=⟨_,rfl⟩
  have hat:=by_at hc
  rw [hxe] at hx hs hat
  have hsh:IntKind.i64.wrap (x * 2 ^ (min (8:Int).toNat IntKind.i64.bits))=x * 256:=by
   rw [show (2:Int) ^ (min (8:Int).toNat IntKind.i64.bits)=256 from by decide];exact IntWalk.i64_in _ (by omega)
  refine Wq<|qW 17 18 rfl<|qK rfl<|Nl<|Wq<|Wt rfl ‹_›<|Wu<|Wq<|Wb<|Wq<|qW 22 27 rfl<|qM rfl<|qJ rfl rfl ty24 ty5 (by omega)<|Od rfl rfl (Li rfl rfl hat ty5 rfl)<|qA rfl<|qA rfl<|Nl ?_
  by_cases hev:i % 2=0
  ·have g2:((i:Int) % 2 == 0)=true:=by simp;omega
   rw [if_pos hev] at hs
   refine Wq<|qW 31 34 rfl<|qM rfl<|Od rfl rfl (LO.rem_in rfl rfl rfl (by omega) (by omega))<|qE rfl<|Nl<|Wt rfl ‹_›<|qW 38 44 rfl<|qM rfl<|qM rfl<|Od rfl rfl (Ci rfl rfl ty5 ty3 (iW _ (by omega)))<|Od rfl rfl (LO.shl rfl rfl rfl (by omega)) ?_
   rw [hsh]
   refine qZ rfl (iW _ (by omega))<|qA rfl<|Nl ?_
   rw [← hs]
   refine qW 57 59 rfl<|qZ rfl (iW _ (by omega))<|qM rfl<|Nl<|WL.renameL [] 0 (by decide) ?_ ?_ (ihA (i + 1) (show l.length - (i + 1) < l.length - i from by omega) (show (i + 1)≤l.length from by omega))
   ·exact lC (lR rfl) (lC (lR rfl) (lC (lR rfl) (lC (lR rfl) lN)))
   ·exact aM
  ·have g2:((i:Int) % 2 == 0)=false:=by simp;omega
   rw [if_neg hev] at hs
   refine Wq<|qW 31 34 rfl<|qM rfl<|Od rfl rfl (LO.rem_in rfl rfl rfl (by omega) (by omega))<|qE rfl<|Nl<|Wo rfl ‹_›<|qW 48 53 rfl<|qM rfl<|qM rfl<|Od rfl rfl (Ci rfl rfl ty5 ty3 (iW _ (by omega)))<|qZ rfl (iW _ (by omega))<|qA rfl<|Nl ?_
   rw [← hs]
   refine qW 57 59 rfl<|qZ rfl (iW _ (by omega))<|qM rfl<|Nl<|WL.renameL [] 0 (by decide) ?_ ?_ (ihA (i + 1) (show l.length - (i + 1) < l.length - i from by omega) (show (i + 1)≤l.length from by omega))
   ·exact lC (lR rfl) (lC (lR rfl) (lC (lR rfl) (lC (lR rfl) lN)))
   ·exact aM
 ·have g1:decide ((i:Int) < (l.length:Int))=false:=decide_eq_false (by omega)
  refine Wq<|qW 17 18 rfl<|qK rfl<|Nl<|Wq<|Wo rfl ‹_›<|Wx ?_
  obtain rfl:i=l.length:=by omega
  clear ihA
  refine Wq<|Wb<|W.loop_keep (α:=Int) (fun x=>x.toNat) 0 (fun x=>[(3,.base (.int .i64 x))]) (fun x=>mt) (fun x=>(0≤x∧x≤65280000000)∧foldS x=foldS (accL l)) (accN (gB l) l.length) [] .nil (show (0≤(accN (gB l) l.length)∧(accN (gB l) l.length)≤65280000000)∧foldS (accN (gB l) l.length)=foldS (accL l) from ⟨by omega,rfl⟩) (by decide) ?_ ?_ ?_
  ·exact lC (lR rfl) lN
  ·exact aM
  rintro n hIB ihB
  try (dsimp only at hIB)
  try dsimp only [baseT,List.cons_append,List.nil_append]
  obtain ⟨hn,hf⟩:=hIB
  by_cases hbig:65535 < n
  ·have g3:decide (n > 65535)=true:=decide_eq_true hbig
   have h1:n.fdiv (2 ^ (min (16:Int).toNat IntKind.i64.bits))=n / 65536:=by
    rw [show (2:Int) ^ (min (16:Int).toNat IntKind.i64.bits)=65536 from by decide];exact Int.fdiv_eq_ediv_of_nonneg _ (by decide)
   have h2:bitV .and .i64 n 65535=n % 65536:=i64_and hn.1 (by omega)
   refine Wq<|Wq<|qW 63 65 rfl<|qM rfl<|qGt rfl<|Nl<|Wt rfl ‹_›<|Wu<|Wb<|qW 69 75 rfl<|qM rfl<|Od rfl rfl (LO.shr rfl rfl rfl (by omega))<|qM rfl<|Od rfl rfl (LO.and rfl rfl rfl) ?_
   rw [h1,h2]
   refine qZ rfl (iW _ (by omega))<|qA rfl<|Nl<|WL.renameL [] 0 (by decide) ?_ ?_ (ihB (n / 65536 + n % 65536) (show (n / 65536 + n % 65536).toNat < n.toNat from by omega) (show (0≤(n / 65536 + n % 65536)∧(n / 65536 + n % 65536)≤65280000000)∧foldS (n / 65536 + n % 65536)=foldS (accL l) from ⟨by omega,by rw [foldS_step hbig];exact hf⟩))
   ·exact lC (lR rfl) lN
   ·exact aM
  ·have g3:decide (n > 65535)=false:=decide_eq_false hbig
   refine Wq<|Wq<|qW 63 65 rfl<|qM rfl<|qGt rfl<|Nl<|Wo rfl ‹_›<|Wx<|Wq<|qW 79 83 rfl<|qM rfl<|Od rfl rfl (LO.sub_in rfl rfl rfl (iW _ (by omega)))<|Od rfl rfl (Ci rfl rfl ty3 ty133 (IntWalk.u16_in _ (by omega)))<|qA rfl<|Nl<|Wz ⟨.inl rfl,_,mt,Rc (Rt rfl) (Rv),aM,?_⟩
   refine ⟨?_,rfl⟩
   rw [foldS_small hn.1 (by omega)] at hf
   show AV.base (.int .u16 (65535 - n))=_
   rw [hf];rfl
theorem from_any (l:List Int) (hB:IsB l) (hn:l.length=4∨l.length=16):AFn Tryz.prog 143 0 [.isl (bytesC l) l.length] mt (.tup [.agg (adC ⟨(l.length:Int) == 16,(fb l).1,(fb l).2⟩),.base (.int .i64 0)]) mt:=by
 refine AFn.eq Tryz.func143 rfl rfl (Nat.le_of_ble_eq_true rfl)<|Wq<|qW 0 2 rfl<|qB rfl ty54<|qA rfl<|Nl ?_
 have key:((l.length:Int) != 4)=false∨(((l.length:Int) != 4)=true∧((l.length:Int) != 16)=false):=by
  rcases hn with h|h
  ·exact .inl (by rw [h];rfl)
  ·exact .inr ⟨by rw [h];rfl,by rw [h];rfl⟩
 rcases key with g1|⟨g1,g2⟩
 case' inl =>
  refine Wq<|Wq<|qW 6 14 rfl<|qM rfl<|qH rfl ty24<|qN rfl<|qM rfl<|qD rfl ‹_› rfl<|qD rfl ‹_› rfl<|qD rfl ‹_› rfl<|qP rfl ‹_› rfl<|Nl ?_
 case' inr =>
  refine Wq<|Wq<|qW 6 14 rfl<|qM rfl<|qH rfl ty24<|qN rfl<|qM rfl<|gM rfl ‹_›<|gH rfl ‹_› ty24<|gN rfl ‹_›<|qT rfl ‹_› rfl<|Nl ?_
 all_goals
  refine Wo rfl (by first|rfl|assumption)<|Wu ?_
  repeat (refine Wq ?_)
  refine qW 25 31 rfl<|qM rfl<|qH rfl ty24<|qE rfl<|Od rfl rfl (Bs rfl ty54 (.cons rfl rfl rfl rfl (Sl rfl) .nil))<|qB rfl ty54<|qS rfl ty54 (Sl rfl) rfl<|Nl ?_
  repeat (refine Wq ?_)
  refine qW 35 38 rfl<|qM rfl<|qH rfl ty24<|qM rfl<|Nl<|Wb<|W.loop_keep (α:=Nat) (fun x=>l.length - x) 2 (fun x=>[(2,.own 0 0),(4,.own 1 0),(22,.base (.int .i64 (x:Int)))]) (fun x=>up (up mt 0 (some (adC zAd))) 1 (some (adC ⟨(l.length:Int) == 16,(fb (l.take x)).1,(fb (l.take x)).2⟩))) (fun x=>x≤l.length) 0 [(0,0),(1,29)] (.cons (t:=20) rfl (by exact .inl rfl) (.cons (t:=21) rfl (by exact .inl rfl) .nil)) (show 0≤l.length from Nat.zero_le _) (by decide) ?_ ?_ ?_
  ·exact lC (lI rfl) (lC (lI rfl) (lC (lR rfl) lN))
  ·exact aU (kR rfl) (aU (kR rfl) aM)
  rintro i hIA ihA
  try (dsimp only at hIA)
  try dsimp only [baseT,List.cons_append,List.nil_append]
  by_cases hc:i < l.length
  ·have g5:decide ((i:Int) < (l.length:Int))=true:=decide_eq_true (by omega)
   have hs:=fb_snoc l i hc
   have hx:=hB.at i
   obtain ⟨x,hxe⟩:∃ x,gB l i=x:=⟨_,rfl⟩
   have hat:=by_at hc
   rw [hxe] at hs hx hat
   obtain ⟨p,hp⟩:∃ p,fb (l.take i)=p:=⟨_,rfl⟩
   obtain ⟨q1,q2⟩:=fb_bd (l.take i)
   rw [hp] at hs q1 q2 ⊢
   have e1:bitV .or .u64 (IntKind.u64.wrap (p.1 * 2 ^ (min (8:Int).toNat IntKind.u64.bits))) (p.2.fdiv (2 ^ (min (56:Int).toNat IntKind.u64.bits)))=(fb (l.take (i + 1))).1:=by rw [hs];exact fb_one p x
   have e2:bitV .or .u64 (IntKind.u64.wrap (p.2 * 2 ^ (min (8:Int).toNat IntKind.u64.bits))) x=(fb (l.take (i + 1))).2:=by rw [hs];rfl
   unfold adC
   repeat (refine Wq ?_)
   refine qW 42 43 rfl<|qK rfl<|Nl ?_
   repeat (refine Wq ?_)
   refine Wt rfl ‹_›<|Wu ?_
   repeat (refine Wq ?_)
   refine Wb ?_
   repeat (refine Wq ?_)
   refine qW 47 50 rfl<|qJ rfl rfl ty24 ty5 (by omega)<|Od rfl rfl (Li rfl rfl hat ty5 rfl)<|qA rfl<|Nl ?_
   repeat (refine Wq ?_)
   refine qW 54 63 rfl<|qF rfl ty54 rfl<|qL rfl ty52 rfl<|Od rfl rfl (LO.shl rfl rfl rfl (by omega))<|qF rfl ty54 rfl<|qL rfl ty52 rfl<|Od rfl rfl (LO.shr rfl rfl rfl (by omega))<|Od rfl rfl (LO.or rfl rfl rfl)<|qF rfl ty54 rfl<|qS rfl ty52 (Sl rfl) rfl<|Nl<|qW 67 75 rfl<|qF rfl ty54 rfl<|qL rfl ty52 rfl<|Od rfl rfl (LO.shl rfl rfl rfl (by omega))<|qM rfl<|Od rfl rfl (Ci rfl rfl ty5 ty52 (IntWalk.u64_in _ (by omega)))<|Od rfl rfl (LO.or rfl rfl rfl)<|qF rfl ty54 rfl<|qS rfl ty52 (Sl rfl) rfl<|Nl ?_
   rw [e1,e2]
   refine qW 79 81 rfl<|qZ rfl (iW _ (by omega))<|qM rfl<|Nl<|WL.renameL [(0,0),(1,1)] 2 (by decide) ?_ ?_ (ihA (i + 1) (show l.length - (i + 1) < l.length - i from by omega) (show (i + 1)≤l.length from by omega))
   ·exact lC (lI rfl) (lC (lI rfl) (lC (lR rfl) (lC (lR rfl) (lC (lR rfl) lN))))
   ·exact aU (kR rfl) (aU (kR rfl) aM)
  ·have g5:decide ((i:Int) < (l.length:Int))=false:=decide_eq_false (by omega)
   repeat (refine Wq ?_)
   refine qW 42 43 rfl<|qK rfl<|Nl ?_
   repeat (refine Wq ?_)
   refine Wo rfl ‹_›<|Wx ?_
   obtain rfl:i=l.length:=by omega
   rw [List.take_length]
   unfold adC
   repeat (refine Wq ?_)
   refine qW 85 88 rfl<|qG rfl ty54 rfl (Tl rfl)<|qS rfl ty54 (Sl rfl) rfl<|qA rfl<|Nl<|Wz ⟨.inl rfl,_,mt,(Rc (Ra0 rfl rfl ty54 rfl (Tl rfl)) (Rc (Rt rfl) Rv)),aM,?_⟩
   exact ⟨rfl,rfl⟩
theorem fromX_any (l:List Int) (hB:IsB l) (hn:l.length=4∨l.length=16):AFn Tryz.prog 74 0 [.isl (bytesC l) l.length] mt (.tup [.agg (adC ⟨(l.length:Int) == 16,(fb l).1,(fb l).2⟩),.base (.int .i64 0)]) mt:=by
 refine AFn.eq Tryz.func74 rfl rfl (Nat.le_of_ble_eq_true rfl)<|Wq<|qW 0 2 rfl<|qB rfl ty54<|qA rfl<|Nl ?_
 have key:((l.length:Int) != 4)=false∨(((l.length:Int) != 4)=true∧((l.length:Int) != 16)=false):=by
  rcases hn with h|h
  ·exact .inl (by rw [h];rfl)
  ·exact .inr ⟨by rw [h];rfl,by rw [h];rfl⟩
 rcases key with g1|⟨g1,g2⟩
 case' inl =>
  refine Wq<|Wq<|qW 6 14 rfl<|qM rfl<|qH rfl ty24<|qN rfl<|qM rfl<|qD rfl ‹_› rfl<|qD rfl ‹_› rfl<|qD rfl ‹_› rfl<|qP rfl ‹_› rfl<|Nl ?_
 case' inr =>
  refine Wq<|Wq<|qW 6 14 rfl<|qM rfl<|qH rfl ty24<|qN rfl<|qM rfl<|gM rfl ‹_›<|gH rfl ‹_› ty24<|gN rfl ‹_›<|qT rfl ‹_› rfl<|Nl ?_
 all_goals
  refine Wo rfl (by first|rfl|assumption)<|Wu ?_
  repeat (refine Wq ?_)
  refine qW 25 31 rfl<|qM rfl<|qH rfl ty24<|qE rfl<|Od rfl rfl (Bs rfl ty54 (.cons rfl rfl rfl rfl (Sl rfl) .nil))<|qB rfl ty54<|qS rfl ty54 (Sl rfl) rfl<|Nl ?_
  repeat (refine Wq ?_)
  refine qW 35 38 rfl<|qM rfl<|qH rfl ty24<|qM rfl<|Nl<|Wb<|W.loop_keep (α:=Nat) (fun x=>l.length - x) 2 (fun x=>[(2,.own 0 0),(4,.own 1 0),(22,.base (.int .i64 (x:Int)))]) (fun x=>up (up mt 0 (some (adC zAd))) 1 (some (adC ⟨(l.length:Int) == 16,(fb (l.take x)).1,(fb (l.take x)).2⟩))) (fun x=>x≤l.length) 0 [(0,0),(1,29)] (.cons (t:=20) rfl (by exact .inl rfl) (.cons (t:=21) rfl (by exact .inl rfl) .nil)) (show 0≤l.length from Nat.zero_le _) (by decide) ?_ ?_ ?_
  ·exact lC (lI rfl) (lC (lI rfl) (lC (lR rfl) lN))
  ·exact aU (kR rfl) (aU (kR rfl) aM)
  rintro i hIA ihA
  try (dsimp only at hIA)
  try dsimp only [baseT,List.cons_append,List.nil_append]
  by_cases hc:i < l.length
  ·have g5:decide ((i:Int) < (l.length:Int))=true:=decide_eq_true (by omega)
   have hs:=fb_snoc l i hc
   have hx:=hB.at i
   obtain ⟨x,hxe⟩:∃ x,gB l i=x:=⟨_,rfl⟩
   have hat:=by_at hc
   rw [hxe] at hs hx hat
   obtain ⟨p,hp⟩:∃ p,fb (l.take i)=p:=⟨_,rfl⟩
   obtain ⟨q1,q2⟩:=fb_bd (l.take i)
   rw [hp] at hs q1 q2 ⊢
   have e1:bitV .or .u64 (IntKind.u64.wrap (p.1 * 2 ^ (min (8:Int).toNat IntKind.u64.bits))) (p.2.fdiv (2 ^ (min (56:Int).toNat IntKind.u64.bits)))=(fb (l.take (i + 1))).1:=by rw [hs];exact fb_one p x
   have e2:bitV .or .u64 (IntKind.u64.wrap (p.2 * 2 ^ (min (8:Int).toNat IntKind.u64.bits))) x=(fb (l.take (i + 1))).2:=by rw [hs];rfl
   unfold adC
   repeat (refine Wq ?_)
   refine qW 42 43 rfl<|qK rfl<|Nl ?_
   repeat (refine Wq ?_)
   refine Wt rfl ‹_›<|Wu ?_
   repeat (refine Wq ?_)
   refine Wb ?_
   repeat (refine Wq ?_)
   refine qW 47 50 rfl<|qJ rfl rfl ty24 ty5 (by omega)<|Od rfl rfl (Li rfl rfl hat ty5 rfl)<|qA rfl<|Nl ?_
   repeat (refine Wq ?_)
   refine qW 54 63 rfl<|qF rfl ty54 rfl<|qL rfl ty52 rfl<|Od rfl rfl (LO.shl rfl rfl rfl (by omega))<|qF rfl ty54 rfl<|qL rfl ty52 rfl<|Od rfl rfl (LO.shr rfl rfl rfl (by omega))<|Od rfl rfl (LO.or rfl rfl rfl)<|qF rfl ty54 rfl<|qS rfl ty52 (Sl rfl) rfl<|Nl<|qW 67 75 rfl<|qF rfl ty54 rfl<|qL rfl ty52 rfl<|Od rfl rfl (LO.shl rfl rfl rfl (by omega))<|qM rfl<|Od rfl rfl (Ci rfl rfl ty5 ty52 (IntWalk.u64_in _ (by omega)))<|Od rfl rfl (LO.or rfl rfl rfl)<|qF rfl ty54 rfl<|qS rfl ty52 (Sl rfl) rfl<|Nl ?_
   rw [e1,e2]
   refine qW 79 81 rfl<|qZ rfl (iW _ (by omega))<|qM rfl<|Nl<|WL.renameL [(0,0),(1,1)] 2 (by decide) ?_ ?_ (ihA (i + 1) (show l.length - (i + 1) < l.length - i from by omega) (show (i + 1)≤l.length from by omega))
   ·exact lC (lI rfl) (lC (lI rfl) (lC (lR rfl) (lC (lR rfl) (lC (lR rfl) lN))))
   ·exact aU (kR rfl) (aU (kR rfl) aM)
  ·have g5:decide ((i:Int) < (l.length:Int))=false:=decide_eq_false (by omega)
   repeat (refine Wq ?_)
   refine qW 42 43 rfl<|qK rfl<|Nl ?_
   repeat (refine Wq ?_)
   refine Wo rfl ‹_›<|Wx ?_
   obtain rfl:i=l.length:=by omega
   rw [List.take_length]
   unfold adC
   repeat (refine Wq ?_)
   refine qW 85 88 rfl<|qG rfl ty54 rfl (Tl rfl)<|qS rfl ty54 (Sl rfl) rfl<|qA rfl<|Nl<|Wz ⟨.inl rfl,_,mt,(Rc (Ra0 rfl rfl ty54 rfl (Tl rfl)) (Rc (Rt rfl) Rv)),aM,?_⟩
   exact ⟨rfl,rfl⟩
def bufB (n j:Nat) (N:Int):List Int:=(List.range n).map fun p=>if p < n - j then 0 else byteN N (n - 1 - p)
theorem bufB_len (n j:Nat) (N:Int):(bufB n j N).length=n:=by simp [bufB]
theorem bufB_zero (n:Nat) (N:Int):bytesC (bufB n 0 N)=zerosL n [.base (.int .u8 0)]:=by
 unfold bufB bytesC zerosL
 rw [List.map_map]
 refine List.ext_getElem (by simp) fun k h1 h2=>?_
 simp at h1
 simp [h1]
theorem bufB_full (n:Nat) (N:Int):bufB n n N=beN n N:=by
 unfold bufB beN
 refine List.map_congr_left fun p _=>?_
 simp
theorem bufB_set {n j:Nat} {N x:Int} (hj:j < n) (hx:x=byteN N j):(bufB n j N).set (n - 1 - j) x=bufB n (j + 1) N:=by
 refine List.ext_getElem (by simp [bufB]) fun k h1 h2=>?_
 simp only [bufB,List.getElem_set,List.getElem_map,List.getElem_range]
 have hk:k < n:=by simpa [bufB] using h2
 by_cases e:n - 1 - j=k
 ·rw [if_pos e,if_neg (by omega),hx,show n - 1 - k=j from by omega]
 ·rw [if_neg e]
  by_cases h3:k < n - j
  ·rw [if_pos h3,if_pos (by omega)]
  ·rw [if_neg h3,if_neg (by omega)]
theorem by_sp {l:List Int} {k:Nat} {v:Int} (h:k < l.length):Sp (bytesC l) (0 + k * 1) [.base (.int .u8 v)] (bytesC (l.set k v)):=by
 have:=Sp.set (bytesC l) k (.base (.int .u8 v)) (by rwa [bytesC_len])
 rw [show bytesC (l.set k v)=(bytesC l).set k (.base (.int .u8 v)) from by simp [bytesC,List.map_set]]
 simpa using this
def numA (a:Ad):Int:=a.hi * 18446744073709551616 + a.lo
def addrL (a:Ad):List Int:=addrB a.v6 a.hi a.lo
theorem addrL_len (a:Ad):(addrL a).length=if a.v6 then 16 else 4:=addrB_len _ _ _
theorem addrL_isB (a:Ad):IsB (addrL a):=by unfold addrL addrB;exact beN_isB _ _
theorem or_split (p:Ad) (h1:U64 p.hi) (h2:U64 p.lo):bitV .or .u64 (p.lo.fdiv (2 ^ (min (8:Int).toNat IntKind.u64.bits))) (IntKind.u64.wrap (p.hi * 2 ^ (min (56:Int).toNat IntKind.u64.bits)))=p.lo / 256 + p.hi % 256 * 72057594037927936:=by
 rw [show (2:Int) ^ (min (8:Int).toNat IntKind.u64.bits)=256 from by decide,show (2:Int) ^ (min (56:Int).toNat IntKind.u64.bits)=72057594037927936 from by decide,Int.fdiv_eq_ediv_of_nonneg _ (by decide)]
 exact u64_or_split h1.1 h2.1 h2.2
theorem byte_lo (p:Ad):IntKind.u8.wrap p.lo=numA p % 256:=by rw [IntKind.wrap_u8'];unfold numA;omega
theorem bytes_any (a:Ad) (hv:validA a.v6 a.hi a.lo=true) (h1:U64 a.hi) (h2:U64 a.lo):AFn Tryz.prog 180 0 [.agg (adC a)] mt (.osl 0 0 (addrL a).length 1) (up mt 0 (some (bytesC (addrL a)))):=by
 refine AFn.eq Tryz.func180 rfl rfl (Nat.le_of_ble_eq_true rfl) ?_
 have hav:=avalid_any a
 rw [hv] at hav
 obtain ⟨n,hn⟩:∃ n,(if a.v6 then 16 else 4)=n:=⟨_,rfl⟩
 have hlen:(addrL a).length=n:=by rw [addrL_len,hn]
 have hbe:addrL a=beN n (numA a):=by unfold addrL addrB;rw [hn];rfl
 rw [hlen]
 obtain ⟨N,hN⟩:∃ N,numA a=N:=⟨_,rfl⟩
 rw [hN] at hbe
 have hn16:1≤n∧n≤16:=by rw [← hn];split<;>omega
 refine Wq<|qW 0 2 rfl<|qC rfl<|qA rfl<|Nl<|Wq<|Wq<|qW 6 9 rfl<|qG rfl ty54 rfl (Tl rfl)<|qY rfl (hav) fok174 rfl<|qO rfl<|Nl<|Wo rfl rfl<|Wu<|Wq<|qW 18 19 rfl<|qA rfl<|Nl ?_
 have hnc:a.v6=true∧n=16∨a.v6=false∧n=4:=by
  cases hb:a.v6<;>rw [hb] at hn<;>simp at hn
  ·exact .inr ⟨rfl,hn.symm⟩
  ·exact .inl ⟨rfl,hn.symm⟩
 unfold adC
 refine Wq<|Wq<|qW 23 25 rfl<|qF rfl ty54 rfl<|qL rfl ty4 rfl<|Nl ?_
 rcases hnc with ⟨hb,hn4⟩|⟨hb,hn4⟩
 case' inl =>
  refine Wt rfl ‹_›<|qW 29 30 rfl<|qA rfl<|Nl ?_
  rw [show (16:Int)=((n:Nat):Int) from by rw [hn4];rfl]
 case' inr =>
  refine Wo rfl ‹_›<|Wu ?_
  rw [show (4:Int)=((n:Nat):Int) from by rw [hn4];rfl]
 all_goals
  repeat (refine Wq ?_)
  refine qW 34 37 rfl<|qM rfl<|Od rfl rfl (LO.makeSlice rfl rfl rfl rfl rfl ty24 ty5 (by decide) (by omega) (by omega) (by omega))<|qA rfl<|Nl ?_
  rw [← bufB_zero n N]
  repeat (refine Wq ?_)
  refine qW 41 44 rfl<|qM rfl<|Od rfl rfl (LO.sub_in rfl rfl rfl (iW _ (by omega)))<|qA rfl<|Nl ?_
  rw [show (n:Int) - 1=((n:Nat):Int) - 1 - ((0:Nat):Int) from by omega]
  refine Wb<|W.loop_keep (α:=Nat × Ad) (fun x=>n - x.1) 2 (fun x=>[(1,.own 0 0),(4,.osl 1 0 n 1),(5,.base (.int .i64 ((n:Int) - 1 - (x.1:Int))))]) (fun x=>up (up mt 0 (some (adC x.2))) 1 (some (bytesC (bufB n x.1 N)))) (fun x=>(x.1≤n∧U64 x.2.hi∧U64 x.2.lo)∧numA x.2=N / 256 ^ x.1) (0,a) [(0,0),(1,35)] .nil (show (0≤n∧U64 a.hi∧U64 a.lo)∧numA a=N / 256 ^ 0 from ⟨⟨Nat.zero_le _,h1,h2⟩,by rw [hN];simp⟩) (by decide) ?_ ?_ ?_
  ·exact lC (lI rfl) (lC (lI rfl) (lC (lR rfl) lN))
  ·exact aU (kP rfl (bytesC_pure _)) (aU (kR rfl) aM)
  rintro ⟨j,p⟩ hIA ihA
  try (dsimp only at hIA)
  try dsimp only [baseT,List.cons_append,List.nil_append]
  obtain ⟨⟨hj,k1,k2⟩,hq⟩:=hIA
  by_cases hc:j < n
  ·have g1:decide ((n:Int) - 1 - (j:Int) ≥ 0)=true:=decide_eq_true (by omega)
   have hbl:=byte_lo p
   have hby:IntKind.u8.wrap p.lo=byteN N j:=by rw [hbl,hq];rfl
   have hset:=bufB_set hc hby
   have e1:=or_split p k1 k2
   have e2:p.hi.fdiv (2 ^ (min (8:Int).toNat IntKind.u64.bits))=p.hi / 256:=by
    rw [show (2:Int) ^ (min (8:Int).toNat IntKind.u64.bits)=256 from by decide];exact Int.fdiv_eq_ediv_of_nonneg _ (by decide)
   have hnn:=beN_N p.hi p.lo k2.1 k2.2
   unfold U64 at k1 k2
   repeat (refine Wq ?_)
   refine qW 48 50 rfl<|qM rfl<|qGe rfl<|Nl<|Wt rfl ‹_›<|Wu ?_
   repeat (refine Wq ?_)
   refine Wb ?_
   unfold adC
   repeat (refine Wq ?_)
   refine qW 54 61 rfl<|qM rfl<|qM rfl<|qF rfl ty54 rfl<|qL rfl ty52 rfl<|Od rfl rfl (LO.conv rfl rfl ty52 ty5)<|Od rfl rfl (Ia rfl rfl rfl (show (n:Int) - 1 - (j:Int)=((n - 1 - j:Nat):Int) from by omega) ty24 ty5 (by omega))<|qS rfl ty5 (by_sp (by rw [bufB_len];omega)) rfl<|Nl ?_
   rw [hset]
   repeat (refine Wq ?_)
   refine qW 65 74 rfl<|qF rfl ty54 rfl<|qL rfl ty52 rfl<|Od rfl rfl (LO.shr rfl rfl rfl (by omega))<|qF rfl ty54 rfl<|qL rfl ty52 rfl<|Od rfl rfl (LO.shl rfl rfl rfl (by omega))<|Od rfl rfl (LO.or rfl rfl rfl)<|qF rfl ty54 rfl<|qS rfl ty52 (Sl rfl) rfl<|Nl ?_
   rw [e1]
   refine qW 78 83 rfl<|qF rfl ty54 rfl<|qL rfl ty52 rfl<|Od rfl rfl (LO.shr rfl rfl rfl (by omega))<|qF rfl ty54 rfl<|qS rfl ty52 (Sl rfl) rfl<|Nl ?_
   rw [e2]
   refine qW 87 90 rfl<|qM rfl<|Od rfl rfl (LO.sub_in rfl rfl rfl (iW _ (by omega)))<|qA rfl<|Nl ?_
   rw [show (n:Int) - 1 - (j:Int) - 1=(n:Int) - 1 - ((j + 1:Nat):Int) from by omega]
   refine WL.renameL [(0,0),(1,1)] 2 (by decide) ?_ ?_ (ihA ((j + 1),(Ad.mk p.v6 (p.hi / 256) (p.lo / 256 + p.hi % 256 * 72057594037927936))) (show n - (j + 1) < n - j from by omega) (show ((j + 1)≤n∧U64 (Ad.mk p.v6 (p.hi / 256) (p.lo / 256 + p.hi % 256 * 72057594037927936)).hi∧U64 (Ad.mk p.v6 (p.hi / 256) (p.lo / 256 + p.hi % 256 * 72057594037927936)).lo)∧numA (Ad.mk p.v6 (p.hi / 256) (p.lo / 256 + p.hi % 256 * 72057594037927936))=N / 256 ^ (j + 1) from ⟨⟨by omega,by unfold U64;dsimp only;omega,by unfold U64;dsimp only;omega⟩,by rw [div_succ,← hq];exact hnn.symm⟩))
   ·exact lC (lI rfl) (lC (lI rfl) (lC (lR rfl) lN))
   ·exact aU (kP rfl (bytesC_pure _)) (aU (kR rfl) aM)
  ·have g1:decide ((n:Int) - 1 - (j:Int) ≥ 0)=false:=decide_eq_false (by omega)
   repeat (refine Wq ?_)
   refine qW 48 50 rfl<|qM rfl<|qGe rfl<|Nl<|Wo rfl ‹_›<|Wx ?_
   obtain rfl:j=n:=by omega
   repeat (refine Wq ?_)
   refine qW 94 96 rfl<|qM rfl<|qA rfl<|Nl ?_
   rw [bufB_full,← hbe]
   refine W.rename [(0,1)] 1 (T':=up mt 2 (some (.osl 0 0 (j) 1))) (H':=up mt 0 (some (bytesC (addrL a)))) (by decide) ?_ ?_ ?_
   ·exact aU (lI rfl) aM
   ·exact aU (kP rfl (bytesC_pure _)) aM
   refine Wz ⟨.inl rfl,_,up mt 0 (some (bytesC (addrL a))),Rc (Rt rfl) Rv,aU rfl aM,?_⟩
   exact ⟨rfl,rfl⟩
theorem bytesX_any (a:Ad) (hv:validA a.v6 a.hi a.lo=true) (_h1:U64 a.hi) (h2:U64 a.lo):AFn Tryz.prog 85 0 [.agg (adC a)] mt (.osl 0 0 (addrL a).length 1) (up mt 0 (some (bytesC (addrL a)))):=by
 refine AFn.eq Tryz.func85 rfl rfl (Nat.le_of_ble_eq_true rfl) ?_
 have hav:=rvalid_any a
 rw [hv] at hav
 obtain ⟨n,hn⟩:∃ n,(if a.v6 then 16 else 4)=n:=⟨_,rfl⟩
 have hlen:(addrL a).length=n:=by rw [addrL_len,hn]
 have hbe:addrL a=beN n (numA a):=by unfold addrL addrB;rw [hn];rfl
 have hpn:preB n n (numA a)=beN n (numA a):=rfl
 rw [hlen]
 have hn16:1≤n∧n≤16:=by rw [← hn];split<;>omega
 have hba:=fun i hi=>byteN_at a.hi a.lo h2.1 h2.2 i hi
 refine Wq<|qW 0 2 rfl<|qC rfl<|qA rfl<|Nl<|Wq<|Wq<|qW 6 9 rfl<|qG rfl ty54 rfl (Tl rfl)<|qY rfl (hav) fok125 rfl<|qO rfl<|Nl<|Wo rfl rfl<|Wu<|Wq<|qW 18 19 rfl<|qA rfl<|Nl ?_
 have hnc:a.v6=true∧n=16∨a.v6=false∧n=4:=by
  cases hb:a.v6<;>rw [hb] at hn<;>simp at hn
  ·exact .inr ⟨rfl,hn.symm⟩
  ·exact .inl ⟨rfl,hn.symm⟩
 unfold adC
 refine Wq<|Wq<|qW 23 25 rfl<|qF rfl ty54 rfl<|qL rfl ty4 rfl<|Nl ?_
 rcases hnc with ⟨hb,hn4⟩|⟨hb,hn4⟩
 case' inl =>
  refine Wt rfl ‹_›<|qW 29 30 rfl<|qA rfl<|Nl ?_
  rw [show (16:Int)=((n:Nat):Int) from by rw [hn4];rfl]
 case' inr =>
  refine Wo rfl ‹_›<|Wu ?_
  rw [show (4:Int)=((n:Nat):Int) from by rw [hn4];rfl]
 all_goals
  repeat (refine Wq ?_)
  refine qW 34 35 rfl<|qA rfl<|Nl ?_
  repeat (refine Wq ?_)
  refine qW 39 42 rfl<|qM rfl<|Od rfl rfl (LO.sub_in rfl rfl rfl (iW _ (by omega)))<|qA rfl<|Nl<|W.name 42 (42 + 1) (t:=4) (sz:=1) rfl (by decide) (by decide) ?_
  rw [show (n:Int) - 1=((n:Nat):Int) - 1 - ((0:Nat):Int) from by omega]
  refine Wb<|W.loop_keep (α:=Nat) (fun x=>n - x) 2 (fun x=>[(1,.own 0 0),(4,.osl 1 0 (preB n x (numA a)).length 1),(5,.base (.int .i64 ((n:Int) - 1 - (x:Int))))]) (fun x=>up (up mt 0 (some (adC a))) 1 (some (bytesC (preB n x (numA a))))) (fun x=>x≤n) 0 [(0,0),(1,42)] .nil (show 0≤n from Nat.zero_le _) (by decide) ?_ ?_ ?_
  ·exact lC (lI rfl) (lC (lI rfl) (lC (lR rfl) lN))
  ·exact aU (kR rfl) (aU (kR rfl) aM)
  rintro j hIA ihA
  try (dsimp only at hIA)
  try dsimp only [baseT,List.cons_append,List.nil_append]
  have hpl:=preB_len n j (numA a)
  by_cases hc:j < n
  ·have g1:decide ((n:Int) - 1 - (j:Int) ≥ 0)=true:=decide_eq_true (by omega)
   have hsn:=preB_snoc n j (numA a)
   obtain ⟨q,hqe⟩:∃ q,n - 1 - j=q:=⟨_,rfl⟩
   have hqi:(n:Int) - 1 - (j:Int)=(q:Int):=by omega
   have hba:=hba q (by omega)
   rw [hqe] at hsn
   have hmod:(8:Int) * ((q:Int) % 8)=((8 * (q % 8):Nat):Int):=by omega
   have hsh:∀ w:Int,IntKind.u8.wrap (w.fdiv (2 ^ (min (((8 * (q % 8):Nat):Int)).toNat IntKind.u64.bits)))=w / 2 ^ (8 * (q % 8)) % 256:=fun w=>by
    rw [Int.toNat_natCast,Nat.min_eq_left (show 8 * (q % 8)≤IntKind.u64.bits from by show _≤64;omega),Int.fdiv_eq_ediv_of_nonneg _ (Int.le_of_lt (Int.pow_pos (by decide))),IntKind.wrap_u8']
   rw [hqi]
   rw [hqi] at g1
   unfold adC
   repeat (refine Wq ?_)
   refine qW 46 48 rfl<|qM rfl<|qGe rfl<|Nl<|Wt rfl rfl<|Wu ?_
   repeat (refine Wq ?_)
   refine Wb ?_
   repeat (refine Wq ?_)
   refine qW 52 55 rfl<|qF rfl ty54 rfl<|qL rfl ty52 rfl<|qA rfl<|Nl ?_
   by_cases h8:8≤q
   ·have g2:decide ((q:Int) ≥ 8)=true:=decide_eq_true (by omega)
    rw [if_pos h8] at hba
    have hfin:IntKind.u8.wrap ((a.hi).fdiv (2 ^ (min (((8 * (q % 8):Nat):Int)).toNat IntKind.u64.bits)))=byteN (numA a) q:=by rw [hsh,hba];rfl
    repeat (refine Wq ?_)
    refine qW 59 61 rfl<|qM rfl<|qGe rfl<|Nl<|Wt rfl ‹_›<|qW 65 68 rfl<|qF rfl ty54 rfl<|qL rfl ty52 rfl<|qA rfl<|Nl<|qW 72 83 rfl<|qM rfl<|qM rfl<|qM rfl<|Od rfl rfl (LO.rem_in rfl rfl rfl (by omega) (by omega))<|Od rfl rfl (Ci rfl rfl ty3 ty129 (IntWalk.u64_in _ (by omega)))<|Od rfl rfl (LO.mul_in rfl rfl rfl (IntWalk.u64_in _ (by omega))) ?_
    rw [hmod]
    refine Od rfl rfl (LO.shr rfl rfl rfl (by omega))<|Od rfl rfl (LO.conv rfl rfl ty52 ty5) ?_
    rw [hfin]
    refine Od rfl rfl (LO.buildSlice rfl ty24 ty5 (by decide) (by decide) (.cons rfl rfl rfl rfl (Sl rfl) .nil))<|Od rfl rfl (Lap rfl rfl (Sso rfl rfl (Tl rfl)) rfl (bytes_tk rfl) ty24 ty24 ty5 (by decide) (by omega) (by omega) (by decide))<|qA rfl<|Nl ?_
    rw [show bytesC (preB n j (numA a))++[AV.base (.int .u8 (byteN (numA a) q))]=bytesC (preB n (j + 1) (numA a)) from by rw [hsn,bytesC_app];rfl,show (preB n j (numA a)).length + 1=(preB n (j + 1) (numA a)).length from by rw [preB_len,preB_len]]
    refine qW 87 90 rfl<|qM rfl<|Od rfl rfl (LO.sub_in rfl rfl rfl (iW _ (by omega)))<|qA rfl<|Nl ?_
    rw [show (q:Int) - 1=(n:Int) - 1 - ((j + 1:Nat):Int) from by omega]
    refine WL.renameL [(0,0),(1,81)] 2 (by decide) ?_ ?_ (ihA (j + 1) (show n - (j + 1) < n - j from by omega) (show (j + 1)≤n from by omega))
    ·exact lC (lI rfl) (lC (lI rfl) (lC (lR rfl) lN))
    ·exact aU (kP rfl (bytesC_pure _)) (aU (kR rfl) aM)
   ·have g2:decide ((q:Int) ≥ 8)=false:=decide_eq_false (by omega)
    rw [if_neg h8] at hba
    have hfin:IntKind.u8.wrap ((a.lo).fdiv (2 ^ (min (((8 * (q % 8):Nat):Int)).toNat IntKind.u64.bits)))=byteN (numA a) q:=by rw [hsh,hba];rfl
    repeat (refine Wq ?_)
    refine qW 59 61 rfl<|qM rfl<|qGe rfl<|Nl<|Wo rfl ‹_›<|Wu<|qW 72 83 rfl<|qM rfl<|qM rfl<|qM rfl<|Od rfl rfl (LO.rem_in rfl rfl rfl (by omega) (by omega))<|Od rfl rfl (Ci rfl rfl ty3 ty129 (IntWalk.u64_in _ (by omega)))<|Od rfl rfl (LO.mul_in rfl rfl rfl (IntWalk.u64_in _ (by omega))) ?_
    rw [hmod]
    refine Od rfl rfl (LO.shr rfl rfl rfl (by omega))<|Od rfl rfl (LO.conv rfl rfl ty52 ty5) ?_
    rw [hfin]
    refine Od rfl rfl (LO.buildSlice rfl ty24 ty5 (by decide) (by decide) (.cons rfl rfl rfl rfl (Sl rfl) .nil))<|Od rfl rfl (Lap rfl rfl (Sso rfl rfl (Tl rfl)) rfl (bytes_tk rfl) ty24 ty24 ty5 (by decide) (by omega) (by omega) (by decide))<|qA rfl<|Nl ?_
    rw [show bytesC (preB n j (numA a))++[AV.base (.int .u8 (byteN (numA a) q))]=bytesC (preB n (j + 1) (numA a)) from by rw [hsn,bytesC_app];rfl,show (preB n j (numA a)).length + 1=(preB n (j + 1) (numA a)).length from by rw [preB_len,preB_len]]
    refine qW 87 90 rfl<|qM rfl<|Od rfl rfl (LO.sub_in rfl rfl rfl (iW _ (by omega)))<|qA rfl<|Nl ?_
    rw [show (q:Int) - 1=(n:Int) - 1 - ((j + 1:Nat):Int) from by omega]
    refine WL.renameL [(0,0),(1,81)] 2 (by decide) ?_ ?_ (ihA (j + 1) (show n - (j + 1) < n - j from by omega) (show (j + 1)≤n from by omega))
    ·exact lC (lI rfl) (lC (lI rfl) (lC (lR rfl) lN))
    ·exact aU (kP rfl (bytesC_pure _)) (aU (kR rfl) aM)
  ·have g1:decide ((n:Int) - 1 - (j:Int) ≥ 0)=false:=decide_eq_false (by omega)
   repeat (refine Wq ?_)
   refine qW 46 48 rfl<|qM rfl<|qGe rfl<|Nl<|Wo rfl ‹_›<|Wx ?_
   obtain rfl:j=n:=by omega
   rw [preB_len,hpn,← hbe]
   repeat (refine Wq ?_)
   refine qW 94 96 rfl<|qM rfl<|qA rfl<|Nl<|W.rename [(0,1)] 1 (T':=up mt 2 (some (.osl 0 0 (j) 1))) (H':=up mt 0 (some (bytesC (addrL a)))) (by decide) ?_ ?_ ?_
   ·exact aU (lI rfl) aM
   ·exact aU (kP rfl (bytesC_pure _)) aM
   refine Wz ⟨.inl rfl,_,up mt 0 (some (bytesC (addrL a))),Rc (Rt rfl) Rv,aU rfl aM,?_⟩
   exact ⟨rfl,rfl⟩
end Go.Proofs.YtlcndmciognneaaGreatDoor
