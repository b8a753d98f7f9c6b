/-
  The packet with a message, by the document.
-/
import Derived.Test.YtlcndmciognneaaGreatDoorQj
import Derived.Test.YtlcndmciognneaaGreatDoorMab
namespace Go.Proofs.YtlcndmciognneaaGreatDoor
open Go.RowKit
def pkZ:List AV:=[.base (.bool false),.base (.int .u64 0),.base (.int .u64 0),.base (.bool false),.base (.int .u64 0),.base (.int .u64 0),.base (.int .i64 0),.base (.int .i64 0),.nils]
def fillL (T:List Int) (n i:Nat):List Int:=T.take i++List.replicate (n - i) 0
theorem fillL_len {T:List Int} {n i:Nat} (hT:T.length=n) (hi:i≤n):(fillL T n i).length=n:=by simp [fillL,hT];omega
theorem fillL_full {T:List Int} {n:Nat} (hT:T.length=n):fillL T n n=T:=by
 unfold fillL;rw [← hT,List.take_length,Nat.sub_self];simp
theorem fillL_set {T:List Int} {n i:Nat} (hT:T.length=n) (hi:i < n):(fillL T n i).set i (gB T i)=fillL T n (i + 1):=by
 obtain ⟨m,hm⟩:∃ m,n - i=m + 1:=⟨n - i - 1,by omega⟩
 have e:T.take (i + 1)=T.take i++[gB T i]:=by rw [List.take_add_one,gB_at (by omega)];simp [show i < T.length by omega]
 unfold fillL
 rw [show n - (i + 1)=m from by omega,hm,List.replicate_succ,List.set_append_right _ _ (by simp;omega),e]
 rw [show i - (T.take i).length=0 from by simp;omega]
 simp
theorem set_mid {A F B:List Int} {i j:Nat} {x:Int} (hj:j=A.length + i) (hi:i < F.length):(A++F++B).set j x=A++F.set i x++B:=by
 subst hj
 rw [List.append_assoc,List.set_append_right _ _ (by omega),Nat.add_sub_cancel_left,List.set_append_left _ _ hi,List.append_assoc]
theorem validN_fl {n:Nb} (h:validN n=true):0≤n.fl∧n.fl≤7∧(n.k≠136→n.fl=0)∧133≤n.k∧n.k≤137∧(targB n.k=true→n.tg.v6=true):=by
 unfold validN at h
 simp only [Bool.and_eq_true,decide_eq_true_eq,Bool.or_eq_true,beq_iff_eq] at h
 obtain ⟨h1,h2,h3,h4,h5,_,h7⟩:=h
 refine ⟨h3,h4,fun h=>?_,h1,h2,fun h=>?_⟩
 ·rcases h5 with h5|h5
  ·exact h5
  ·exact absurd h5 h
 ·rw [if_pos h] at h7
  simp only [Bool.and_eq_true] at h7
  exact h7.1
theorem flB_eq {n:Nb} (h0:0≤n.fl) (h7:n.fl≤7):flB n=IntKind.u8.wrap (n.fl * 32):=by
 unfold flB
 rw [show (2:Int) ^ (min (5:Int).toNat IntKind.i64.bits)=32 from by decide,IntWalk.i64_in _ (by omega)]
set_option maxHeartbeats 2000000 in
theorem encX_any (n:Nb) (s d:Ad) (hl:n.ln.length=6) (hB:IsB n.ln) (h1:U64 n.tg.hi) (h2:U64 n.tg.lo) (s1:U64 s.hi) (s2:U64 s.lo) (d1:U64 d.hi) (d2:U64 d.lo):AFn Tryz.prog 42 0 [.agg (nbC n),.agg (adC s),.agg (adC d)] mt (encV n s d) mt:=by
 refine AFn.eq Tryz.func42 rfl rfl (Nat.le_of_ble_eq_true rfl) ?_
 have hvn:=nvalidX_any n hl
 have hcase:okN n s d=false∨(okN n s d=true∧validN n=true∧s.v6=true∧d.v6=true):=by
  unfold okN
  cases validN n<;>cases s.v6<;>cases d.v6<;>simp
 have hwn:Tk (nbC n) 0 12 (nbC n):=by
  have:=Tk.all (nbC n)
  rwa [show (nbC n).length=12 from by simp [nbC,adC,bytesC_len,hl]] at this
 rcases hcase with hok|⟨hok,hv,hs6,hd6⟩
 ·have hbad:(!validN n)=true∨((!validN n)=false∧(!s.v6)=true)∨((!validN n)=false∧(!s.v6)=false∧(!d.v6)=true):=by
   unfold okN at hok
   cases hh:validN n<;>cases hh2:s.v6<;>cases hh3:d.v6<;>simp [hh,hh2,hh3] at hok ⊢
  have hev:encV n s d=.tup [.agg (pkC zPk),.base (.int .i64 1)]:=by unfold encV;rw [hok];rfl
  rw [hev]
  refine Wq<|qW 0 5 rfl<|qC rfl<|qC rfl<|qC rfl<|qB rfl ty83<|qA rfl<|Nl ?_
  unfold adC
  rcases hbad with b1|⟨b1,b2⟩|⟨b1,b2,b3⟩
  all_goals
   repeat (refine Wq ?_)
   refine qW 9 22 rfl<|qG rfl ty87 rfl hwn<|Od rfl rfl (C0 (fr:=[]) rfl rfl (hvn) fok84 (.cons rfl (.pure (bytesC_pure _)) .nil) rfl)<|qO rfl<|qM rfl ?_
   first
    | (refine RW.sd rfl rfl rfl ?_ rfl ?_;(· (first|rfl|assumption)))
    | (refine RW.gd rfl rfl rfl ?_ rfl (LO.fieldAddr rfl rfl ty54 rfl (by decide)) ?_;(· (first|rfl|assumption)))
   first
    | (refine RW.sd rfl rfl rfl ?_ rfl ?_;(· (first|rfl|assumption)))
    | (refine RW.gd rfl rfl rfl ?_ rfl (LO.load rfl rfl rfl rfl ty4 rfl) ?_;(· (first|rfl|assumption)))
   first
    | (refine RW.sd rfl rfl rfl ?_ rfl ?_;(· (first|rfl|assumption)))
    | (refine RW.gd rfl rfl rfl ?_ rfl (LO.not rfl rfl) ?_;(· (first|rfl|assumption)))
   first
    | (refine RW.opd rfl rfl (LO.pick_t rfl rfl ?_ rfl) ?_;(· (first|rfl|assumption)))
    | (refine RW.opd rfl rfl (LO.pick_f rfl rfl ?_ rfl) ?_;(· (first|rfl|assumption)))
   refine qM rfl ?_
   first
    | (refine RW.sd rfl rfl rfl ?_ rfl ?_;(· (first|rfl|assumption)))
    | (refine RW.gd rfl rfl rfl ?_ rfl (LO.fieldAddr rfl rfl ty54 rfl (by decide)) ?_;(· (first|rfl|assumption)))
   first
    | (refine RW.sd rfl rfl rfl ?_ rfl ?_;(· (first|rfl|assumption)))
    | (refine RW.gd rfl rfl rfl ?_ rfl (LO.load rfl rfl rfl rfl ty4 rfl) ?_;(· (first|rfl|assumption)))
   first
    | (refine RW.sd rfl rfl rfl ?_ rfl ?_;(· (first|rfl|assumption)))
    | (refine RW.gd rfl rfl rfl ?_ rfl (LO.not rfl rfl) ?_;(· (first|rfl|assumption)))
   first
    | (refine RW.opd rfl rfl (LO.pick_t rfl rfl ?_ rfl) ?_;(· (first|rfl|assumption)))
    | (refine RW.opd rfl rfl (LO.pick_f rfl rfl ?_ rfl) ?_;(· (first|rfl|assumption)))
   refine Nl<|Wt rfl (by first|rfl|assumption) ?_
   repeat (refine Wq ?_)
   refine qW 26 29 rfl<|Od rfl rfl (Bs rfl ty83 .nil)<|qS rfl ty83 (Sl rfl) rfl<|qA rfl<|Nl<|W.nilc (q:=3) (j:=8) rfl rfl (Sl rfl)<|Wz ⟨.inl rfl,_,mt,(Rc (Ra0 rfl rfl ty83 rfl (Tl rfl)) (Rc (Rt0 rfl) Rv)),aM,?_⟩
   exact ⟨rfl,rfl⟩
 ·obtain ⟨f0,f7,f136,k133,k137,htv⟩:=validN_fl hv
  have hby:=bytesX_any n.tg (validN_tg hv) h1 h2
  have b1:(!validN n)=false:=by rw [hv];rfl
  have b2:(!s.v6)=false:=by rw [hs6];rfl
  have b3:(!d.v6)=false:=by rw [hd6];rfl
  have hev:encV n s d=.tup [.agg (pkC (encN n s d)),.base (.int .i64 0)]:=by unfold encV;rw [hok];rfl
  rw [hev]
  have hel:=encL_len hl
  have hop:=optionX_any
  have htg:=targetedX_any
  have hfx:=fixedX_any
  have hva:∀ a:Ad,a.v6=true→validA a.v6 a.hi a.lo=true:=fun a h=>by unfold validA;rw [h];rfl
  have hck:=chkX_any s d 58 (encL n) (hva s hs6) (hva d hd6) s1 s2 d1 d2 (encL_isB hB) (by omega)
  have hen:encL n=[IntKind.u8.wrap n.k,0,0,0]++fixL n++(if n.has then [optN n.k,1]++n.ln else []):=rfl
  unfold adC at hck
  have hfn:fixN n.k≤36∧4≤fixN n.k:=by unfold fixN;split<;>(try split)<;>(try split)<;>omega
  have hflb:=flB_eq f0 f7
  have htgc:targB n.k=false∨(targB n.k=true∧n.k=137∧fixN n.k=36)∨(targB n.k=true∧(n.k=137)=False∧fixN n.k=20):=by
   unfold targB fixN
   by_cases c1:n.k=133
   ·left;simp [c1]
   ·by_cases c2:n.k=134
    ·left;simp [c2]
    ·right
     by_cases c3:n.k=137
     ·left;simp [c3]
     ·right;simp [c1,c2,c3];omega
  refine Wq<|qW 0 5 rfl<|qC rfl<|qC rfl<|qC rfl<|qB rfl ty83<|qA rfl<|Nl ?_
  unfold adC
  refine Wq<|Wq<|qW 9 22 rfl<|qG rfl ty87 rfl hwn<|Od rfl rfl (C0 (fr:=[]) rfl rfl (hvn) fok84 (.cons rfl (.pure (bytesC_pure _)) .nil) rfl)<|qO rfl<|qM rfl<|gF rfl ‹_› ty54 rfl<|gL rfl ‹_› ty4 rfl<|gO rfl ‹_›<|qP rfl ‹_› rfl<|qM rfl<|gF rfl ‹_› ty54 rfl<|gL rfl ‹_› ty4 rfl<|gO rfl ‹_›<|qP rfl ‹_› rfl<|Nl<|Wo rfl ‹_›<|Wu<|Wq<|Wd 33 42 (by decide) rfl mixed rfl<|qF rfl ty87 rfl<|qL rfl ty3 rfl<|Od rfl rfl (LO.conv rfl rfl ty3 ty5)<|Od rfl rfl (LO.buildSlice rfl ty24 ty5 (by decide) (by decide) (.cons rfl rfl rfl rfl (Sl rfl) (.cons rfl rfl rfl rfl (Sl rfl) (.cons rfl rfl rfl rfl (Sl rfl) (.cons rfl rfl rfl rfl (Sl rfl) .nil)))))<|qF rfl ty87 rfl<|qL rfl ty3 rfl<|qY rfl (hfx _) fok79 rfl<|Od rfl rfl (LO.append_zeros rfl rfl rfl rfl (Tl rfl) ty24 ty3 ty5 (by decide) (by omega) (by omega) (by omega) (by omega) (by decide))<|qA rfl<|Nl ⟨by kernel_rfl,?_⟩
  rw [zerosB,show [AV.base (.int .u8 (IntKind.u8.wrap n.k)),AV.base (.int .u8 0),AV.base (.int .u8 0),AV.base (.int .u8 0)]++bytesC (List.replicate (fixN n.k) 0)=bytesC ([IntKind.u8.wrap n.k,0,0,0]++List.replicate (fixN n.k) 0) from by rw [bytesC_app];rfl,show 4 + fixN n.k=([IntKind.u8.wrap n.k,0,0,0]++List.replicate (fixN n.k) 0).length from by simp;omega]
  obtain ⟨K4,hK4⟩:∃ K4,[IntKind.u8.wrap n.k,0,0,0]=K4:=⟨_,rfl⟩
  have hk4:K4.length=4:=by rw [← hK4];rfl
  rw [hK4] at hen ⊢
  refine Wq<|Wq<|qW 46 49 rfl<|qF rfl ty87 rfl<|qL rfl ty3 rfl<|qY rfl (htg _) fok80 rfl<|Nl<|W.joinK (α:=Unit) 5 (fun x=>[(3,.own 0 0),(4,.own 1 0),(5,.own 2 0),(6,.own 3 0),(8,.osl 4 0 (K4++fixL n).length 1)]) (fun x=>up (up (up (up (up mt 0 (some (nbC n))) 1 (some (adC s))) 2 (some (adC d))) 3 (some (pkZ))) 4 (some (bytesC (K4++fixL n)))) (fun x=>True) .nil ?_ ?_
  rotate_left
  rintro u hIJ
  try (dsimp only at hIJ)
  try dsimp only [joinT,baseT,List.cons_append,List.nil_append]
  rotate_right
  rcases htgc with ht|⟨ht,hk,hf⟩|⟨ht,hk,hf⟩
  ·have e:K4++List.replicate (fixN n.k) 0=K4++fixL n:=by
    have hk2:n.k=133∨n.k=134:=by
     unfold targB at ht
     simp only [Bool.and_eq_false_iff,decide_eq_false_iff_not] at ht
     omega
    rcases hk2 with e|e<;>simp [fixL,fixN,e]
   rw [e]
   refine Wo rfl (ht)<|Wu ?_
   intro yJ KJ hJ
   refine W.renameJ [(0,0),(1,1),(2,2),(3,3),(4,40)] 5 (by decide) ?_ ?_ (hJ (()) (show True from trivial))
   ·exact lC (lI rfl) (lC (lI rfl) (lC (lI rfl) (lC (lI rfl) (lC (lI rfl) lN))))
   ·exact aU (kP rfl (bytesC_pure _)) (aU (kR rfl) (aU (kR rfl) (aU (kR rfl) (aU (kP rfl (bytesC_pure _)) aM))))
  ·have hg:(n.k == 137)=true:=by simp [hk]
   have hv6:=htv ht
   have hr5:135≤n.k:=by unfold targB at ht;simp only [Bool.and_eq_true,decide_eq_true_eq] at ht;exact ht.1
   obtain ⟨T,hT⟩:∃ T,addrL n.tg=T:=⟨_,rfl⟩
   have hT16:T.length=16:=by rw [← hT,addrL_len,hv6];rfl
   obtain ⟨xb,hx⟩:∃ xb,IntKind.u8.wrap (n.fl * 32)=xb:=⟨_,rfl⟩
   rw [hT,hT16] at hby
   rw [hf]
   refine Wt rfl (ht)<|Wq<|qW 53 60 rfl<|qM rfl<|qF rfl ty87 rfl<|qL rfl ty3 rfl<|Od rfl rfl (LO.mul_in rfl rfl rfl (iW _ (by omega)))<|Od rfl rfl (LO.conv rfl rfl ty3 ty5)<|Od rfl rfl (Ia rfl rfl rfl rfl ty24 ty5 (by simp;done))<|qS rfl ty5 (by_sp (k:=4) (by (simp;done))) rfl<|Nl ?_
   have e0:List.set (K4++List.replicate 36 0) 4 xb=K4++[xb,0,0,0]++fillL T 16 0++fillL T 16 0:=by rw [← hK4];rfl
   rw [hx,e0]
   refine Wq<|qW 64 69 rfl<|qF rfl ty87 rfl<|qG rfl ty54 rfl (Tl rfl)<|Od rfl rfl (LO.callO (fr:=[]) rfl rfl (hby) fok85 (.cons rfl (.pure rfl) .nil) (bytesC_pure _) (by decide))<|Od rfl rfl (LO.len rfl rfl ty24)<|qM rfl<|Nl ?_
   have hlen:(K4++List.replicate 36 (0:Int)).length=4 + 36:=by simp [hk4]
   rw [hlen]
   refine Wb<|W.loop_keep (α:=Nat) (fun x=>16 - x) 6 (fun x=>[(3,.own 0 0),(4,.own 1 0),(5,.own 2 0),(6,.own 3 0),(8,.osl 4 0 (4 + 36) 1),(45,.osl 5 0 16 1),(47,.base (.int .i64 (x:Int)))]) (fun x=>up (up (up (up (up (up mt 0 (some (nbC n))) 1 (some (adC s))) 2 (some (adC d))) 3 (some (pkZ))) 4 (some (bytesC (K4++[xb,0,0,0]++fillL T 16 x++fillL T 16 x)))) 5 (some (bytesC T))) (fun x=>x≤16) 0 [(0,0),(1,1),(2,2),(3,3),(4,40),(5,66)] (.cons (t:=46) rfl (by exact .inl rfl) .nil) (show 0≤16 from Nat.zero_le _) (by decide) ?_ ?_ ?_
   ·exact lC (lI rfl) (lC (lI rfl) (lC (lI rfl) (lC (lI rfl) (lC (lI rfl) (lC (lI rfl) (lC (lR rfl) lN))))))
   ·exact aU (kP rfl (bytesC_pure _)) (aU (kP rfl (bytesC_pure _)) (aU (kR rfl) (aU (kR rfl) (aU (kR rfl) (aU (kP rfl (bytesC_pure _)) aM)))))
   rintro i hIA ihA
   try (dsimp only at hIA)
   try dsimp only [baseT,List.cons_append,List.nil_append]
   by_cases hc:i < 16
   ·have g1:decide ((i:Int) < 16)=true:=decide_eq_true (by omega)
    have hfi:=fillL_len hT16 hIA
    have hfs:=fillL_set hT16 hc
    have hfi2:=fillL_len (i:=i + 1) hT16 (by omega)
    refine Wq<|qW 73 74 rfl<|qK rfl<|Nl<|Wq<|Wt rfl ‹_›<|Wu<|Wq<|Wb<|Wq<|qW 78 83 rfl<|qM rfl<|Od rfl rfl (Ia rfl rfl rfl rfl ty24 ty5 (by omega))<|Od rfl rfl (Ld rfl rfl rfl (by_at0 (k:=i) (by omega)) ty5 rfl)<|qA rfl<|qA rfl<|Nl ?_
    have e1:(K4++[xb,0,0,0]++fillL T 16 i++fillL T 16 i).set (8 + i) (gB T i)=K4++[xb,0,0,0]++fillL T 16 (i + 1)++fillL T 16 i:=by
     rw [set_mid (i:=i) (by simp;omega) (by omega),hfs]
    refine Wq<|qW 87 93 rfl<|qM rfl<|qM rfl<|qZ rfl (iW _ (by omega))<|qM rfl<|Od rfl rfl (Ia rfl rfl rfl rfl ty24 ty5 (by simp;omega))<|qS rfl ty5 (by_sp (k:=8 + i) (by (simp;omega))) rfl<|Nl ?_
    rw [e1]
    refine Wq<|qW 97 100 rfl<|qF rfl ty87 rfl<|qL rfl ty3 rfl<|qE rfl<|Nl<|Wt rfl ‹_› ?_
    have e2:(K4++[xb,0,0,0]++fillL T 16 (i + 1)++fillL T 16 i).set (24 + i) (gB T i)=K4++[xb,0,0,0]++fillL T 16 (i + 1)++fillL T 16 (i + 1):=by
     rw [show K4++[xb,0,0,0]++fillL T 16 (i + 1)++fillL T 16 i=K4++[xb,0,0,0]++fillL T 16 (i + 1)++fillL T 16 i++[] from by simp,set_mid (i:=i) (by simp;omega) (by omega),hfs,List.append_nil]
    refine qW 104 110 rfl<|qM rfl<|qM rfl<|qZ rfl (iW _ (by omega))<|qM rfl<|Od rfl rfl (Ia rfl rfl rfl rfl ty24 ty5 (by simp;omega))<|qS rfl ty5 (by_sp (k:=24 + i) (by (simp;omega))) rfl<|Nl ?_
    rw [e2]
    refine qW 114 116 rfl<|qZ rfl (iW _ (by omega))<|qM rfl<|Nl<|WL.renameL [(0,0),(1,1),(2,2),(3,3),(4,4),(5,5)] 6 (by decide) ?_ ?_ (ihA (i + 1) (show 16 - (i + 1) < 16 - i from by omega) (show (i + 1)≤16 from by omega))
    ·exact lC (lI rfl) (lC (lI rfl) (lC (lI rfl) (lC (lI rfl) (lC (lI rfl) (lC (lI rfl) (lC (lR rfl) (lC (lR rfl) lN)))))))
    ·exact aU (kP rfl (bytesC_pure _)) (aU (kP rfl (bytesC_pure _)) (aU (kR rfl) (aU (kR rfl) (aU (kR rfl) (aU (kP rfl (bytesC_pure _)) aM)))))
   ·have g1:decide ((i:Int) < 16)=false:=decide_eq_false (by omega)
    refine Wq<|qW 73 74 rfl<|qK rfl<|Nl<|Wq<|Wo rfl ‹_›<|Wx ?_
    obtain rfl:i=16:=by omega
    rw [fillL_full hT16]
    have e3:K4++[xb,0,0,0]++T++T=K4++fixL n:=by
     rw [← hx,← hflb,← hT]
     unfold fixL
     rw [if_neg (by omega),if_neg (by omega),if_pos hk]
     rw [show flB n=0 from by rw [hflb,f136 (by omega)];decide]
     simp [List.replicate]
    rw [e3,show 4 + 36=(K4++fixL n).length from by rw [← e3];simp [hT16];omega]
    intro yJ KJ hJ
    refine W.renameJ [(0,0),(1,1),(2,2),(3,3),(4,4)] 5 (by decide) ?_ ?_ (hJ (()) (show True from trivial))
    ·exact lC (lI rfl) (lC (lI rfl) (lC (lI rfl) (lC (lI rfl) (lC (lI rfl) lN))))
    ·exact aU (kP rfl (bytesC_pure _)) (aU (kR rfl) (aU (kR rfl) (aU (kR rfl) (aU (kP rfl (bytesC_pure _)) aM))))
  ·have hg:(n.k == 137)=false:=by simp [hk]
   have hv6:=htv ht
   have hr5:135≤n.k:=by unfold targB at ht;simp only [Bool.and_eq_true,decide_eq_true_eq] at ht;exact ht.1
   obtain ⟨T,hT⟩:∃ T,addrL n.tg=T:=⟨_,rfl⟩
   have hT16:T.length=16:=by rw [← hT,addrL_len,hv6];rfl
   obtain ⟨xb,hx⟩:∃ xb,IntKind.u8.wrap (n.fl * 32)=xb:=⟨_,rfl⟩
   rw [hT,hT16] at hby
   rw [hf]
   refine Wt rfl (ht)<|Wq<|qW 53 60 rfl<|qM rfl<|qF rfl ty87 rfl<|qL rfl ty3 rfl<|Od rfl rfl (LO.mul_in rfl rfl rfl (iW _ (by omega)))<|Od rfl rfl (LO.conv rfl rfl ty3 ty5)<|Od rfl rfl (Ia rfl rfl rfl rfl ty24 ty5 (by simp;done))<|qS rfl ty5 (by_sp (k:=4) (by (simp;done))) rfl<|Nl ?_
   have e0:List.set (K4++List.replicate 20 0) 4 xb=K4++[xb,0,0,0]++fillL T 16 0:=by rw [← hK4];rfl
   rw [hx,e0]
   refine Wq<|qW 64 69 rfl<|qF rfl ty87 rfl<|qG rfl ty54 rfl (Tl rfl)<|Od rfl rfl (LO.callO (fr:=[]) rfl rfl (hby) fok85 (.cons rfl (.pure rfl) .nil) (bytesC_pure _) (by decide))<|Od rfl rfl (LO.len rfl rfl ty24)<|qM rfl<|Nl ?_
   have hlen:(K4++List.replicate 20 (0:Int)).length=4 + 20:=by simp [hk4]
   rw [hlen]
   refine Wb<|W.loop_keep (α:=Nat) (fun x=>16 - x) 6 (fun x=>[(3,.own 0 0),(4,.own 1 0),(5,.own 2 0),(6,.own 3 0),(8,.osl 4 0 (4 + 20) 1),(45,.osl 5 0 16 1),(47,.base (.int .i64 (x:Int)))]) (fun x=>up (up (up (up (up (up mt 0 (some (nbC n))) 1 (some (adC s))) 2 (some (adC d))) 3 (some (pkZ))) 4 (some (bytesC (K4++[xb,0,0,0]++fillL T 16 x)))) 5 (some (bytesC T))) (fun x=>x≤16) 0 [(0,0),(1,1),(2,2),(3,3),(4,40),(5,66)] (.cons (t:=46) rfl (by exact .inl rfl) .nil) (show 0≤16 from Nat.zero_le _) (by decide) ?_ ?_ ?_
   ·exact lC (lI rfl) (lC (lI rfl) (lC (lI rfl) (lC (lI rfl) (lC (lI rfl) (lC (lI rfl) (lC (lR rfl) lN))))))
   ·exact aU (kP rfl (bytesC_pure _)) (aU (kP rfl (bytesC_pure _)) (aU (kR rfl) (aU (kR rfl) (aU (kR rfl) (aU (kP rfl (bytesC_pure _)) aM)))))
   rintro i hIA ihA
   try (dsimp only at hIA)
   try dsimp only [baseT,List.cons_append,List.nil_append]
   by_cases hc:i < 16
   ·have g1:decide ((i:Int) < 16)=true:=decide_eq_true (by omega)
    have hfi:=fillL_len hT16 hIA
    have hfs:=fillL_set hT16 hc
    have hfi2:=fillL_len (i:=i + 1) hT16 (by omega)
    refine Wq<|qW 73 74 rfl<|qK rfl<|Nl<|Wq<|Wt rfl ‹_›<|Wu<|Wq<|Wb<|Wq<|qW 78 83 rfl<|qM rfl<|Od rfl rfl (Ia rfl rfl rfl rfl ty24 ty5 (by omega))<|Od rfl rfl (Ld rfl rfl rfl (by_at0 (k:=i) (by omega)) ty5 rfl)<|qA rfl<|qA rfl<|Nl ?_
    have e1:(K4++[xb,0,0,0]++fillL T 16 i).set (8 + i) (gB T i)=K4++[xb,0,0,0]++fillL T 16 (i + 1):=by
     rw [show K4++[xb,0,0,0]++fillL T 16 i=K4++[xb,0,0,0]++fillL T 16 i++[] from by simp,set_mid (i:=i) (by simp;omega) (by omega),hfs,List.append_nil]
    refine Wq<|qW 87 93 rfl<|qM rfl<|qM rfl<|qZ rfl (iW _ (by omega))<|qM rfl<|Od rfl rfl (Ia rfl rfl rfl rfl ty24 ty5 (by simp;omega))<|qS rfl ty5 (by_sp (k:=8 + i) (by (simp;omega))) rfl<|Nl ?_
    rw [e1]
    refine Wq<|qW 97 100 rfl<|qF rfl ty87 rfl<|qL rfl ty3 rfl<|qE rfl<|Nl<|Wo rfl ‹_›<|Wu<|qW 114 116 rfl<|qZ rfl (iW _ (by omega))<|qM rfl<|Nl<|WL.renameL [(0,0),(1,1),(2,2),(3,3),(4,4),(5,5)] 6 (by decide) ?_ ?_ (ihA (i + 1) (show 16 - (i + 1) < 16 - i from by omega) (show (i + 1)≤16 from by omega))
    ·exact lC (lI rfl) (lC (lI rfl) (lC (lI rfl) (lC (lI rfl) (lC (lI rfl) (lC (lI rfl) (lC (lR rfl) (lC (lR rfl) lN)))))))
    ·exact aU (kP rfl (bytesC_pure _)) (aU (kP rfl (bytesC_pure _)) (aU (kR rfl) (aU (kR rfl) (aU (kR rfl) (aU (kP rfl (bytesC_pure _)) aM)))))
   ·have g1:decide ((i:Int) < 16)=false:=decide_eq_false (by omega)
    refine Wq<|qW 73 74 rfl<|qK rfl<|Nl<|Wq<|Wo rfl ‹_›<|Wx ?_
    obtain rfl:i=16:=by omega
    rw [fillL_full hT16]
    have e3:K4++[xb,0,0,0]++T=K4++fixL n:=by
     rw [← hx,← hflb,← hT]
     unfold fixL
     rw [if_neg (by omega),if_neg (by omega),if_neg (by simp [hk])]
     simp
    rw [e3,show 4 + 20=(K4++fixL n).length from by rw [← e3];simp [hT16];omega]
    intro yJ KJ hJ
    refine W.renameJ [(0,0),(1,1),(2,2),(3,3),(4,4)] 5 (by decide) ?_ ?_ (hJ (()) (show True from trivial))
    ·exact lC (lI rfl) (lC (lI rfl) (lC (lI rfl) (lC (lI rfl) (lC (lI rfl) lN))))
    ·exact aU (kP rfl (bytesC_pure _)) (aU (kR rfl) (aU (kR rfl) (aU (kR rfl) (aU (kP rfl (bytesC_pure _)) aM))))
  unfold adC pkZ
  obtain ⟨L3,hL3⟩:∃ L3,K4++fixL n=L3:=⟨_,rfl⟩
  have hfl:=fixL_len n
  rw [hL3] at hen
  have hl3:L3.length≤40:=by rw [← hL3];simp;omega
  rw [hL3]
  refine W.frzo (t:=3) rfl rfl (nbC_pure n)<|Wq<|Wq<|qW 120 122 rfl<|qI rfl ty87 rfl<|Od rfl rfl (Li rfl rfl rfl ty4 rfl)<|Nl ?_
  cases hh:n.has with
  | true =>
   have hfin:L3++[optN n.k,1]++n.ln=encL n:=by rw [hen,hh,List.append_assoc];rfl
   refine Wt rfl rfl<|Wd 126 136 (by decide) rfl mixed rfl<|qM rfl<|qI rfl ty87 rfl<|Od rfl rfl (Li rfl rfl rfl ty3 rfl)<|qY rfl (hop _) fok82 rfl<|Od rfl rfl (LO.buildSlice rfl ty24 ty5 (by decide) (by decide) (.cons rfl rfl rfl rfl (Sl rfl) (.cons rfl rfl rfl rfl (Sl rfl) .nil)))<|Od rfl rfl (Lap rfl rfl (Sso rfl rfl (Tl rfl)) rfl (bytes_tk rfl) ty24 ty24 ty5 (by decide) (by omega) (by omega) (by decide))<|qI rfl ty87 rfl<|Od rfl rfl (LO.slice_imm rfl rfl ty23 ty5 (nb_tkM hl) (by decide))<|Od rfl rfl (Lap rfl rfl (Ssi rfl rfl (by rw [bytesC_len,hl])) rfl (tk_len (by simp [bytesC_len])) ty24 ty24 ty5 (by decide) (by omega) (by omega) (by decide))<|qA rfl<|Nl ⟨by kernel_rfl,?_⟩
   have hfin2:bytesC (encL n)=bytesC L3++[AV.base (.int .u8 (optN n.k)),AV.base (.int .u8 1)]++bytesC n.ln:=by rw [← hfin,bytesC_app,bytesC_app];rfl
   have hfl2:L3.length + 2 + 6=(encL n).length:=by rw [← hfin];simp [hl]
   rw [hfl2]
   rw [← hfin2]
   obtain ⟨E0,hE0⟩:∃ E0,encL n=E0:=⟨_,rfl⟩
   rw [hE0] at hck hel ⊢
   refine Wq<|qW 140 145 rfl<|qG rfl ty54 rfl (Tl rfl)<|qG rfl ty54 rfl (Tl rfl)<|qM rfl<|Od rfl rfl (LO.callB (fr:=[134]) rfl rfl (hck) fok78 (.cons rfl (.pure rfl) (.cons rfl (.pure rfl) (.cons rfl (.pure rfl) (.cons rfl (.one (.osl (by decide) rfl (bytes_tk rfl) (bytesC_pure _))) .nil)))))<|qA rfl<|Nl<|Wq<|qW 149 160 rfl<|qM rfl<|qM rfl<|qM rfl<|Od rfl rfl (LO.shr rfl rfl rfl (by omega))<|Od rfl rfl (LO.conv rfl rfl ty133 ty5)<|qM rfl<|Od rfl rfl (LO.conv rfl rfl ty133 ty5)<|Od rfl rfl (Ia rfl rfl rfl rfl ty24 ty5 (by simp;omega))<|qS rfl ty5 (by_sp (by (simp;omega))) rfl<|Od rfl rfl (Ia rfl rfl rfl rfl ty24 ty5 (by simp;omega))<|qS rfl ty5 (by_sp (by (simp;omega))) rfl<|Nl ?_
   rw [← sumL2_len (chkF s d 58 E0) E0]
   refine Wy (t:=8) rfl rfl (bytes_tk (l:=sumL2 (chkF s d 58 E0) E0) rfl) (bytesC_pure _)<|Wq<|qW 164 170 rfl<|qG rfl ty54 rfl (Tl rfl)<|qG rfl ty54 rfl (Tl rfl)<|qM rfl<|Od rfl rfl (Bs rfl ty83 (.cons rfl rfl rfl rfl (Sl rfl) (.cons rfl rfl rfl rfl (Sl rfl) (.cons rfl rfl rfl rfl (Sl rfl) (.cons rfl rfl rfl rfl (Sl rfl) (.cons rfl rfl rfl rfl (Sl rfl) .nil))))))<|qS rfl ty83 (Sl rfl) rfl<|qA rfl<|Nl<|Wz ⟨.inl rfl,_,mt,(Rc (Ra0 rfl rfl ty83 rfl (Tl rfl)) (Rc (Rt0 rfl) Rv)),aM,?_⟩
   subst hE0
   exact ⟨rfl,rfl⟩
  | false =>
   have hfin:L3=encL n:=by rw [hen,hh];simp
   refine Wo rfl rfl<|Wu ?_
   have hfin2:bytesC (encL n)=bytesC L3:=by rw [hfin]
   rw [show L3.length=(encL n).length from by rw [hfin]]
   rw [← hfin2]
   obtain ⟨E0,hE0⟩:∃ E0,encL n=E0:=⟨_,rfl⟩
   rw [hE0] at hck hel ⊢
   refine Wq<|qW 140 145 rfl<|qG rfl ty54 rfl (Tl rfl)<|qG rfl ty54 rfl (Tl rfl)<|qM rfl<|Od rfl rfl (LO.callB (fr:=[4]) rfl rfl (hck) fok78 (.cons rfl (.pure rfl) (.cons rfl (.pure rfl) (.cons rfl (.pure rfl) (.cons rfl (.one (.osl (by decide) rfl (bytes_tk rfl) (bytesC_pure _))) .nil)))))<|qA rfl<|Nl<|Wq<|qW 149 160 rfl<|qM rfl<|qM rfl<|qM rfl<|Od rfl rfl (LO.shr rfl rfl rfl (by omega))<|Od rfl rfl (LO.conv rfl rfl ty133 ty5)<|qM rfl<|Od rfl rfl (LO.conv rfl rfl ty133 ty5)<|Od rfl rfl (Ia rfl rfl rfl rfl ty24 ty5 (by simp;omega))<|qS rfl ty5 (by_sp (by (simp;omega))) rfl<|Od rfl rfl (Ia rfl rfl rfl rfl ty24 ty5 (by simp;omega))<|qS rfl ty5 (by_sp (by (simp;omega))) rfl<|Nl ?_
   rw [← sumL2_len (chkF s d 58 E0) E0]
   refine Wy (t:=8) rfl rfl (bytes_tk (l:=sumL2 (chkF s d 58 E0) E0) rfl) (bytesC_pure _)<|Wq<|qW 164 170 rfl<|qG rfl ty54 rfl (Tl rfl)<|qG rfl ty54 rfl (Tl rfl)<|qM rfl<|Od rfl rfl (Bs rfl ty83 (.cons rfl rfl rfl rfl (Sl rfl) (.cons rfl rfl rfl rfl (Sl rfl) (.cons rfl rfl rfl rfl (Sl rfl) (.cons rfl rfl rfl rfl (Sl rfl) (.cons rfl rfl rfl rfl (Sl rfl) .nil))))))<|qS rfl ty83 (Sl rfl) rfl<|qA rfl<|Nl<|Wz ⟨.inl rfl,_,mt,(Rc (Ra0 rfl rfl ty83 rfl (Tl rfl)) (Rc (Rt0 rfl) Rv)),aM,?_⟩
   subst hE0
   exact ⟨rfl,rfl⟩
end Go.Proofs.YtlcndmciognneaaGreatDoor
