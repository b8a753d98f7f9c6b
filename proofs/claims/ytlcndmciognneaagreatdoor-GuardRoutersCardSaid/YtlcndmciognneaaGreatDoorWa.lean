/-
  The bytes of a packet, by the document. A message of neighbour discovery in a frame. Bytes that are changed. Frames that are changed now and then. Frames as a port may send them. Rules of a database are in order; frames that are the same. Whom a frame does not reach (plain). Reading a message, by the document: packets that something is wrong with ahead of the fixed bytes. Reading a message, by the document: a packet that is right so far; its fixed bytes are too short. Reading a message, by the document: a packet that is right so far, with enough bytes. Reading a message, by the document. Where a frame goes, by the document. The rule of a port, copied. Which addresses lie in the blocks of the exchange (plain).
-/
import Derived.Test.YtlcndmciognneaaGreatDoorCd
import Derived.Test.YtlcndmciognneaaGreatDoorMab
import Derived.Test.YtlcndmciognneaaGreatDoorQk
import Derived.Test.YtlcndmciognneaaGreatDoorCz
import Derived.Test.YtlcndmciognneaaGreatDoorJr
namespace Go.Proofs.YtlcndmciognneaaGreatDoor
open Go.RowKit
theorem hi16 (s:Int):IntKind.u8.wrap (s.fdiv (2 ^ (min (8:Int).toNat IntKind.u16.bits)))=hi8 s:=by
 unfold hi8
 rw [show (2:Int) ^ (min (8:Int).toNat IntKind.u16.bits)=256 from by decide,show (2:Int) ^ (min (8:Int).toNat IntKind.i64.bits)=256 from by decide]
set_option maxHeartbeats 4000000 in
theorem renc_any (p:Pk) (s1:U64 p.s.hi) (s2:U64 p.s.lo) (d1:U64 p.d.hi) (d2:U64 p.d.lo) (hB:IsB p.bs):AFn Tryz.prog 43 0 [.agg (pkC p)] mt (ecV p) mt:=by
 refine AFn.eq Tryz.func43 rfl rfl (Nat.le_of_ble_eq_true rfl) ?_
 have hpv:=rpvalid_any p
 cases hv:vpk p
 ·rw [hv] at hpv
  have he:ecV p=.tup [.isl [] 0,.base (.int .i64 1)]:=by unfold ecV encL2 encE;rw [hv];rfl
  rw [he]
  refine Wq<|qW 0 3 rfl<|qC rfl<|qA rfl<|qA rfl<|Nl<|Wq<|Wq<|qW 7 10 rfl<|qG rfl ty83 rfl (Tl rfl)<|Od rfl rfl (C0 (fr:=[]) rfl rfl (hpv) fok77 (.cons rfl (.pure (pkC_pure p)) .nil) rfl)<|qO rfl<|Nl<|Wt rfl rfl<|Wq<|qW 14 16 rfl<|qA rfl<|qA rfl<|Nl<|W.nilt (t:=2) rfl<|Wz ⟨.inl rfl,_,mt,(Rc (Rt0 rfl) (Rc (Rt0 rfl) Rv)),aM,?_⟩
  exact ⟨rfl,rfl⟩
 rw [hv] at hpv
 obtain ⟨v1,v2,v3⟩:=vpk_parts hv
 have v4:=valid_parts hv
 have he:ecV p=.tup [.isl (bytesC (encB p)) (encB p).length,.base (.int .i64 0)]:=by unfold ecV encL2 encE;rw [hv];rfl
 rw [he]
 obtain ⟨_,_,hp4,hp5,hp6,hp7⟩:=v4
 have hbs:=bytesX_any p.s v1 s1 s2
 have hbd:=bytesX_any p.d v2 d1 d2
 have hls:=adl_len p.s
 have hld:=adl_len p.d
 cases h6:p.s.v6
 ·have hhl:=hdB_len p
  have hhB:=hdB_isB hp5 hp6
  have hsb:=sumL_bd hhB
  have hsm:=sumX_any (hdB p) hhB (by omega)
  obtain ⟨S,hS⟩:∃ S,sumL (hdB p)=S:=⟨_,rfl⟩
  rw [hS] at hsb hsm
  have hhs:hdS p=((hdB p).set 10 (hi8 S)).set 11 (IntKind.u8.wrap S):=by unfold hdS;rw [hS]
  have hsl:(hdS p).length=(hdB p).length:=by rw [hhs];simp
  have heB:encB p=hdS p++p.bs:=by unfold encB;rw [h6];rfl
  have hH:bytesC ([69,0]++putL (20 + (p.bs.length:Int))++[0,0,64,0,p.t,p.p,0,0]++addrL p.s)++bytesC (addrL p.d)=bytesC (hdB p):=by rw [← bytesC_app,List.append_assoc];rfl
  have hHl:([69,0]++putL (20 + (p.bs.length:Int))++[0,0,64,0,p.t,p.p,0,0]++addrL p.s).length + (addrL p.d).length=12 + (addrL p.s).length + (addrL p.d).length:=by simp [putL];omega
  have hHT:Tk (bytesC ([69,0]++putL (20 + (p.bs.length:Int))++[0,0,64,0,p.t,p.p,0,0]++addrL p.s)++bytesC (addrL p.d)) 0 ((12 + (addrL p.s).length + (addrL p.d).length) * 1) (bytesC (hdB p)):=by rw [hH];exact bytes_tk (by rw [hhl];omega)
  have hadd:(p.bs.length:Int) + 20=20 + (p.bs.length:Int):=by omega
  rw [heB]
  refine Wq<|qW 0 3 rfl<|qC rfl<|qA rfl<|qA rfl<|Nl<|Wq<|Wq<|qW 7 10 rfl<|qG rfl ty83 rfl (Tl rfl)<|Od rfl rfl (C0 (fr:=[]) rfl rfl (hpv) fok77 (.cons rfl (.pure (pkC_pure p)) .nil) rfl)<|qO rfl<|Nl<|Wo rfl rfl<|Wu<|Wq<|qW 20 24 rfl<|qF rfl ty83 rfl<|qL rfl ty24 rfl<|qH rfl ty24<|qA rfl<|Nl<|Wq<|Wq<|qW 28 31 rfl<|qF rfl ty83 rfl<|qF rfl ty54 rfl<|qL rfl ty4 rfl<|Nl<|Wo rfl ‹_›<|Wu<|Wq<|qW 70 73 rfl<|qM rfl<|qZ rfl (iW _ (by omega))<|qA rfl<|Nl ?_
  rw [hadd]
  have hT8:Tk (bytesC [69,0,hi8 (20 + (p.bs.length:Int)),IntKind.u8.wrap (20 + (p.bs.length:Int)),0,0,64,0,p.t,p.p,0,0]) 0 (12 * 1) (bytesC ([69,0]++putL (20 + (p.bs.length:Int))++[0,0,64,0,p.t,p.p,0,0])):=bytes_tk rfl
  unfold adC at hbs hbd
  refine Wq<|Wd 77 94 (by decide) rfl mixed rfl<|qM rfl<|Od rfl rfl (LO.shr rfl rfl rfl (by omega))<|Od rfl rfl (LO.conv rfl rfl ty3 ty5)<|qM rfl<|Od rfl rfl (LO.conv rfl rfl ty3 ty5)<|qF rfl ty83 rfl<|qL rfl ty3 rfl<|Od rfl rfl (Ci rfl rfl ty3 ty5 (IntWalk.u8_in _ (by omega)))<|qF rfl ty83 rfl<|qL rfl ty3 rfl<|Od rfl rfl (Ci rfl rfl ty3 ty5 (IntWalk.u8_in _ (by omega)))<|Od rfl rfl (LO.buildSlice rfl ty24 ty5 (by decide) (by decide) (.cons rfl rfl rfl rfl (Sl rfl) (.cons rfl rfl rfl rfl (Sl rfl) (.cons rfl rfl rfl rfl (Sl rfl) (.cons rfl rfl rfl rfl (Sl rfl) (.cons rfl rfl rfl rfl (Sl rfl) (.cons rfl rfl rfl rfl (Sl rfl) (.cons rfl rfl rfl rfl (Sl rfl) (.cons rfl rfl rfl rfl (Sl rfl) (.cons rfl rfl rfl rfl (Sl rfl) (.cons rfl rfl rfl rfl (Sl rfl) (.cons rfl rfl rfl rfl (Sl rfl) (.cons rfl rfl rfl rfl (Sl rfl) .nil)))))))))))))<|qF rfl ty83 rfl<|qG rfl ty54 rfl (Tl rfl)<|Od rfl rfl (LO.callO (fr:=[]) rfl rfl (hbs) fok85 (.cons rfl (.pure rfl) .nil) (bytesC_pure _) (by decide))<|Od rfl rfl (Lap rfl rfl (Sso rfl rfl (bytes_tk rfl)) rfl hT8 ty24 ty24 ty5 (by decide) (by omega) (by omega) (by decide))<|qA rfl<|Nl ⟨by kernel_rfl,(Wq<|qW 98 104 rfl<|qM rfl<|qF rfl ty83 rfl<|qG rfl ty54 rfl (Tl rfl)<|Od rfl rfl (LO.callO (fr:=[]) rfl rfl (hbd) fok85 (.cons rfl (.pure rfl) .nil) (bytesC_pure _) (by decide))<|Od rfl rfl (Lap rfl rfl (Sso rfl rfl (bytes_tk rfl)) rfl (by_tk2 (L:=[69,0]++putL (20 + (p.bs.length:Int))++[0,0,64,0,p.t,p.p,0,0]) (M:=addrL p.s) rfl) ty24 ty24 ty5 (by decide) (by omega) (by omega) (by decide))<|qA rfl<|Nl ?_)⟩
  rw [hhl,show 12 + ((addrL p.s).length + (addrL p.d).length)=12 + (addrL p.s).length + (addrL p.d).length from by omega] at hsm
  refine Wq<|qW 108 111 rfl<|qM rfl<|Od rfl rfl (LO.callB (fr:=[102]) rfl rfl (hsm) fok76 (.cons rfl (.one (.osl (by decide) rfl hHT (bytesC_pure _))) .nil))<|qA rfl<|Nl ?_
  rw [hH]
  refine Wq<|qW 115 126 rfl<|qM rfl<|qM rfl<|qM rfl<|Od rfl rfl (LO.shr rfl rfl rfl (by omega))<|Od rfl rfl (LO.conv rfl rfl ty133 ty5)<|qM rfl<|Od rfl rfl (LO.conv rfl rfl ty133 ty5)<|Od rfl rfl (Ia rfl rfl rfl rfl ty24 ty5 (by simp;omega))<|qS rfl ty5 (by_sp (l:=hdB p) (k:=10) (by omega)) rfl<|Od rfl rfl (Ia rfl rfl rfl rfl ty24 ty5 (by simp;omega))<|qS rfl ty5 (by_sp (l:=(hdB p).set 10 _) (k:=11) (by simp;omega)) rfl<|Nl ?_
  rw [hi16,← hhs]
  have hlen:(hdS p).length=12 + (addrL p.s).length + (addrL p.d).length:=by rw [hsl,hhl];omega
  refine Wq<|qW 130 136 rfl<|qM rfl<|qF rfl ty83 rfl<|qL rfl ty24 rfl<|Od rfl rfl (Lap rfl rfl (Ssi rfl rfl (by simp [bytesC_len])) rfl (bytes_tk (l:=hdS p) hlen) ty24 ty24 ty5 (by decide) (by omega) (by omega) (by decide))<|qA rfl<|qA rfl<|Nl<|Wy (t:=2) rfl rfl (by_tk2 (L:=hdS p) (M:=p.bs) (congrArg (· + p.bs.length) hlen)) (bytesC_pure _)<|Wz ⟨.inl rfl,_,mt,(Rc (Rt0 rfl) (Rc (Rt0 rfl) Rv)),aM,?_⟩
  exact ⟨by rw [List.length_append,hlen];rfl,rfl⟩
 ·have heB:encB p=[96,0,0,0]++putL (p.bs.length:Int)++[p.p,p.t]++addrL p.s++addrL p.d++p.bs:=by unfold encB;rw [h6,if_pos rfl];simp only [List.append_assoc]
  have hT0:Tk (bytesC ([96,0,0,0]++putL (p.bs.length:Int)++[p.p,p.t]++addrL p.s)) 0 ((8 + (addrL p.s).length) * 1) (bytesC ([96,0,0,0]++putL (p.bs.length:Int)++[p.p,p.t]++addrL p.s)):=bytes_tk (by simp [putL];omega)
  have hl0:([96,0,0,0]++putL (p.bs.length:Int)++[p.p,p.t]++addrL p.s).length + (addrL p.d).length=8 + (addrL p.s).length + (addrL p.d).length:=by simp [putL];omega
  have hl1:([96,0,0,0]++putL (p.bs.length:Int)++[p.p,p.t]++addrL p.s++addrL p.d).length + p.bs.length=8 + (addrL p.s).length + (addrL p.d).length + p.bs.length:=by simp [putL];omega
  rw [heB]
  refine Wq<|qW 0 3 rfl<|qC rfl<|qA rfl<|qA rfl<|Nl<|Wq<|Wq<|qW 7 10 rfl<|qG rfl ty83 rfl (Tl rfl)<|Od rfl rfl (C0 (fr:=[]) rfl rfl (hpv) fok77 (.cons rfl (.pure (pkC_pure p)) .nil) rfl)<|qO rfl<|Nl<|Wo rfl rfl<|Wu<|Wq<|qW 20 24 rfl<|qF rfl ty83 rfl<|qL rfl ty24 rfl<|qH rfl ty24<|qA rfl<|Nl<|Wq<|Wq<|qW 28 31 rfl<|qF rfl ty83 rfl<|qF rfl ty54 rfl<|qL rfl ty4 rfl<|Nl<|Wt rfl ‹_› ?_
  have hT8:Tk (bytesC [96,0,0,0,hi8 (p.bs.length:Int),IntKind.u8.wrap (p.bs.length:Int),p.p,p.t]) 0 (8 * 1) (bytesC ([96,0,0,0]++putL (p.bs.length:Int)++[p.p,p.t])):=bytes_tk rfl
  unfold adC at hbs hbd
  refine Wq<|Wd 35 52 (by decide) rfl mixed rfl<|qM rfl<|Od rfl rfl (LO.shr rfl rfl rfl (by omega))<|Od rfl rfl (LO.conv rfl rfl ty3 ty5)<|qM rfl<|Od rfl rfl (LO.conv rfl rfl ty3 ty5)<|qF rfl ty83 rfl<|qL rfl ty3 rfl<|Od rfl rfl (Ci rfl rfl ty3 ty5 (IntWalk.u8_in _ (by omega)))<|qF rfl ty83 rfl<|qL rfl ty3 rfl<|Od rfl rfl (Ci rfl rfl ty3 ty5 (IntWalk.u8_in _ (by omega)))<|Od rfl rfl (LO.buildSlice rfl ty24 ty5 (by decide) (by decide) (.cons rfl rfl rfl rfl (Sl rfl) (.cons rfl rfl rfl rfl (Sl rfl) (.cons rfl rfl rfl rfl (Sl rfl) (.cons rfl rfl rfl rfl (Sl rfl) (.cons rfl rfl rfl rfl (Sl rfl) (.cons rfl rfl rfl rfl (Sl rfl) (.cons rfl rfl rfl rfl (Sl rfl) (.cons rfl rfl rfl rfl (Sl rfl) .nil)))))))))<|qF rfl ty83 rfl<|qG rfl ty54 rfl (Tl rfl)<|Od rfl rfl (LO.callO (fr:=[]) rfl rfl (hbs) fok85 (.cons rfl (.pure rfl) .nil) (bytesC_pure _) (by decide))<|Od rfl rfl (Lap rfl rfl (Sso rfl rfl (bytes_tk rfl)) rfl hT8 ty24 ty24 ty5 (by decide) (by omega) (by omega) (by decide))<|qA rfl<|Nl ⟨by kernel_rfl,(Wq<|Wd 56 66 (by decide) rfl mixed rfl<|qM rfl<|qF rfl ty83 rfl<|qG rfl ty54 rfl (Tl rfl)<|Od rfl rfl (LO.callO (fr:=[]) rfl rfl (hbd) fok85 (.cons rfl (.pure rfl) .nil) (bytesC_pure _) (by decide))<|Od rfl rfl (Lap rfl rfl (Sso rfl rfl (bytes_tk rfl)) rfl (by rw [← bytesC_app];exact hT0) ty24 ty24 ty5 (by decide) (by omega) (by omega) (by decide))<|qF rfl ty83 rfl<|qL rfl ty24 rfl<|Od rfl rfl (Lap rfl rfl (Ssi rfl rfl (by simp [bytesC_len])) rfl (by_tk2 hl0) ty24 ty24 ty5 (by decide) (by omega) (by omega) (by decide))<|qA rfl<|qA rfl<|Nl ⟨by kernel_rfl,(Wy (t:=2) rfl rfl (by_tk2 hl1) (bytesC_pure _)<|Wz ⟨.inl rfl,_,mt,(Rc (Rt0 rfl) (Rc (Rt0 rfl) Rv)),aM,?_⟩)⟩)⟩
  exact ⟨by rw [List.length_append,hl1];rfl,rfl⟩
theorem hi8_bd (x:Int):0≤hi8 x∧hi8 x≤255:=by unfold hi8;exact u8_bd _
theorem encL2_ok (p:Pk) (hB:IsB p.bs):IsB (encL2 p)∧(encL2 p).length≤60 + p.bs.length:=by
 unfold encL2
 split
 ·rename_i hv
  unfold vpk validP at hv
  simp only [Bool.and_eq_true,decide_eq_true_eq] at hv
  have hp:0≤p.p∧p.p≤255:=by omega
  have ht:0≤p.t∧p.t≤255:=by omega
  have l1:=adl_len p.s
  have l2:=adl_len p.d
  unfold encB
  split
  ·refine ⟨IsB.append (IsB.append (IsB.append (IsB.append ?_ (putL_isB _)) ?_) ((addrL_isB _).append (addrL_isB _))) hB,?_⟩
   ·intro x hx
    simp only [List.mem_cons,List.not_mem_nil,or_false] at hx
    omega
   ·intro x hx
    simp only [List.mem_cons,List.not_mem_nil,or_false] at hx
    omega
   ·simp only [List.length_append,putL,List.length_cons,List.length_nil]
    omega
  ·refine ⟨IsB.append ?_ hB,?_⟩
   ·unfold hdS
    exact ((hdB_isB hp ht).set _ (hi8_bd _)).set _ (u8_bd _)
   ·rw [List.length_append]
    unfold hdS
    rw [List.length_set,List.length_set,hdB_len]
    omega
 ·exact ⟨fun x hx=>by simp at hx,by simp⟩
theorem v6_u {a:Ad} (h:V6Ok a):U64 a.hi∧U64 a.lo:=h.2
set_option maxHeartbeats 8000000 in
theorem nbM_any (l:List Int) (at_:Nat) (r to:Rl) (f:Fr) (hr:RlOk r) (ht:RlOk to) (hf:FrG f) (hl:l.length≤9223372036854775807) :
 ∃ v H',AFn Tryz.prog 99 2 [.own 0 0,.agg (ruleC r),.agg (ruleC to),.own 1 0] (up (up mt 1 (some (frC f))) 0 (some (deckC l at_))) v H' ∧
  ∃ (g:Fr) (at':Nat),FrG g∧v=.tup []∧H'=up (up mt 1 (some (frC g))) 0 (some (deckC l at')):=by
 refine AFn.ex Tryz.func99 rfl rfl (Nat.le_of_ble_eq_true rfl) ?_
 obtain ⟨dst,src,vl,ty,data⟩:=f
 have d6:=hf.ok.d6
 have s6:=hf.ok.s6
 have sB:=hf.sB
 clear hf
 dsimp only at d6 s6 sB
 obtain ⟨d0,d1,d2,d3,d4,d5,rfl⟩:=six_of d6
 obtain ⟨s0,s1,s2,s3,s4,s5,rfl⟩:=six_of s6
 have n4:=next_any l at_ 9 (by decide) (by decide) hl
 have b4:=nextV_bd l at_ 9 (by decide)
 generalize nextV l at_ 9=q1 at *
 generalize nextAt l at_=a1 at *
 obtain ⟨_,_,h6,sr,a2,hsr,rfl,rfl⟩:=one_any l a1 r.v6 (sixA q1) hr.n6 hl
 have n4':=next_any l a2 9 (by decide) (by decide) hl
 have b4':=nextV_bd l a2 9 (by decide)
 generalize nextV l a2 9=q2 at *
 generalize nextAt l a2=a3 at *
 obtain ⟨_,_,h6',tg,a4,htg,rfl,rfl⟩:=one_any l a3 to.v6 (sixA q2) ht.n6 hl
 have n8:=next_any l a4 2 (by decide) (by decide) hl
 generalize nextV l a4 2=q3 at *
 generalize nextAt l a4=a5 at *
 have ksr:V6Ok sr:=by
  rcases hsr with e|e
  ·exact e ▸ sixA_ok (by omega) (by omega)
  ·exact hr.v6 _ e
 have ktg:V6Ok tg:=by
  rcases htg with e|e
  ·exact e ▸ sixA_ok (by omega) (by omega)
  ·exact ht.v6 _ e
 obtain ⟨_,_,hso,mS,⟨mS6,mSB⟩,rfl,rfl⟩:=solic_any tg
 obtain ⟨z0,z1,z2,z3,z4,z5,rfl⟩:=six_of mS6
 have hm0:=ht.macs _ (List.getElem_mem (show 0 < to.macs.length by have:=ht.nm;omega))
 have tM:=macs_tk (fun m hm=>(ht.macs m hm).1) (show 0 < to.macs.length by have:=ht.nm;omega)
 have hnm:=ht.nm
 generalize to.macs[0]'(by have:=ht.nm;omega)=m at hm0 tM
 obtain ⟨m6,mB⟩:=hm0
 obtain ⟨m0,m1,m2,m3,m4,m5,rfl⟩:=six_of m6
 have e6:=next_any l a5 6 (by decide) (by decide) hl
 generalize nextV l a5 6=e at *
 generalize nextAt l a5=a6 at *
 generalize hhas:(q3 == 0)=has
 refine Wq<|qW 2 4 rfl<|qC rfl<|qC rfl<|Nl<|Wq<|Wd 8 17 (by decide) rfl mixed rfl<|qM rfl<|qF rfl ty39 rfl<|qL rfl ty37 rfl<|qM rfl<|Od rfl rfl (C1 (fr:=[]) rfl rfl (n4) fok49 (.own rfl rfl (.cons rfl (.pure rfl) .nil)) rfl rfl rfl (Cn _ _) (by decide) rfl)<|qY rfl (sixM_any q1 (by omega) (by omega)) fok100 rfl<|Od rfl rfl (C1 (fr:=[]) rfl rfl (h6) fok137 (.own rfl rfl (.cons rfl (.pure rfl) (.cons rfl (.pure rfl) .nil))) rfl rfl rfl (Cn _ _) (by decide) rfl)<|qB rfl ty54<|qS rfl ty54 (Sl rfl) rfl<|Nl ⟨by kernel_rfl,(Wq<|Wd 21 34 (by decide) rfl mixed rfl<|qM rfl<|qF rfl ty39 rfl<|qL rfl ty37 rfl<|qM rfl<|Od rfl rfl (C1 (fr:=[]) rfl rfl (n4') fok49 (.own rfl rfl (.cons rfl (.pure rfl) .nil)) rfl rfl rfl (Cn _ _) (by decide) rfl)<|qY rfl (sixM_any q2 (by omega) (by omega)) fok100 rfl<|Od rfl rfl (C1 (fr:=[]) rfl rfl (h6') fok137 (.own rfl rfl (.cons rfl (.pure rfl) (.cons rfl (.pure rfl) .nil))) rfl rfl rfl (Cn _ _) (by decide) rfl)<|qM rfl<|Od rfl rfl (C1 (fr:=[]) rfl rfl (n8) fok49 (.own rfl rfl (.cons rfl (.pure rfl) .nil)) rfl rfl rfl (Cn _ _) (by decide) rfl)<|qE rfl<|Od rfl rfl (Bs rfl ty87 (.cons rfl rfl rfl rfl (Sl rfl) (.cons rfl rfl rfl rfl (Sl rfl) (.cons rfl rfl rfl rfl (Sl rfl) .nil))))<|qB rfl ty87<|qS rfl ty87 (Sl rfl) rfl<|Nl ⟨by kernel_rfl,?_⟩)⟩
 rw [hhas]
 refine Wq<|qW 38 49 rfl<|qM rfl<|qM rfl<|qF rfl ty87 rfl<|qG rfl ty54 rfl (Tl rfl)<|qY rfl (hso) fok41 rfl<|Od rfl rfl (Nc rfl rfl)<|qF rfl ty26 rfl<|qS rfl ty3 (Sl rfl) rfl<|Od rfl rfl (Nc rfl rfl)<|qF rfl ty26 rfl<|qS rfl ty23 (Sl rfl) rfl<|Nl<|Wq<|W.joinK (α:=Int × Int × Ad × Bool × Ad × List Int × Nat) 4 (fun x=>[(0,.own 0 0),(3,.own 1 0),(8,.own 2 0),(9,.own 3 0)]) (fun x=>up (up (up (up mt 0 (some (deckC l x.2.2.2.2.2.2))) 1 (some (frC ⟨x.2.2.2.2.2.1,[s0,s1,s2,s3,s4,s5],vl,34525,data⟩))) 2 (some (adC x.2.2.2.2.1))) 3 (some (nbC ⟨x.1,x.2.1,x.2.2.1,x.2.2.2.1,[0,0,0,0,0,0]⟩))) (fun x=>(x.2.2.2.2.2.1.length=6∧IsB x.2.2.2.2.2.1)∧(U64 x.2.2.1.hi∧U64 x.2.2.1.lo)∧(U64 x.2.2.2.2.1.hi∧U64 x.2.2.2.2.1.lo)) .nil ?_ ?_
 rotate_left
 rintro ⟨k,fl,y,h,s,dd,b⟩ hIJ
 try (dsimp only at hIJ)
 try dsimp only [joinT,baseT,List.cons_append,List.nil_append]
 rotate_right
 ·
  cases k3:(e == 3)
  ·
   cases k4:(e == 4)
   ·
    cases k5:(e == 5)
    ·
     refine Wq<|qW 53 55 rfl<|qM rfl<|Od rfl rfl (C1 (fr:=[]) rfl rfl (e6) fok49 (.own rfl rfl (.cons rfl (.pure rfl) .nil)) rfl rfl rfl (Cn _ _) (by decide) rfl)<|Nl<|Wb<|Wq<|qW 59 61 rfl<|qE rfl<|qA rfl<|Nl<|Wo rfl ‹_›<|Wq<|qW 95 97 rfl<|qE rfl<|qA rfl<|Nl<|Wo rfl ‹_›<|Wq<|qW 112 114 rfl<|qE rfl<|qA rfl<|Nl<|Wo rfl ‹_›<|Wu ?_
     intro yJ KJ hJ
     refine W.renameJ [(0,0),(1,1),(2,15),(3,32)] 4 (by decide) ?_ ?_ (hJ (135,0,tg,has,sr,[z0,z1,z2,z3,z4,z5],a6) (show ([z0,z1,z2,z3,z4,z5].length=6∧IsB [z0,z1,z2,z3,z4,z5])∧(U64 tg.hi∧U64 tg.lo)∧(U64 sr.hi∧U64 sr.lo) from ⟨⟨rfl,mSB⟩,v6_u ktg,v6_u ksr⟩))
     ·exact lC (lI rfl) (lC (lI rfl) (lC (lI rfl) (lC (lI rfl) lN)))
     ·exact aU (kR rfl) (aU (kR rfl) (aU (kR rfl) (aU (kR rfl) aM)))
    ·
     obtain ⟨_,_,h12,tg2,a7,htg2,rfl,rfl⟩:=one_any l a6 r.v6 tg hr.n6 hl
     have ktg2:V6Ok tg2:=by
      rcases htg2 with e|e
      ·exact e ▸ ktg
      ·exact hr.v6 _ e
     obtain ⟨_,_,hso2,mS2,⟨mS26,mS2B⟩,rfl,rfl⟩:=solic_any tg2
     obtain ⟨y0,y1,y2,y3,y4,y5,rfl⟩:=six_of mS26
     refine Wq<|qW 53 55 rfl<|qM rfl<|Od rfl rfl (C1 (fr:=[]) rfl rfl (e6) fok49 (.own rfl rfl (.cons rfl (.pure rfl) .nil)) rfl rfl rfl (Cn _ _) (by decide) rfl)<|Nl<|Wb<|Wq<|qW 59 61 rfl<|qE rfl<|qA rfl<|Nl<|Wo rfl ‹_›<|Wq<|qW 95 97 rfl<|qE rfl<|qA rfl<|Nl<|Wo rfl ‹_›<|Wq<|qW 112 114 rfl<|qE rfl<|qA rfl<|Nl<|Wt rfl ‹_›<|Wq<|qW 118 122 rfl<|Od rfl rfl (Bs rfl ty54 (.cons rfl rfl rfl rfl (Sl rfl) .nil))<|qS rfl ty54 (Sl rfl) rfl<|qF rfl ty87 rfl<|qS rfl ty4 (Sl rfl) rfl<|Nl<|Wq<|qW 126 134 rfl<|qM rfl<|qF rfl ty39 rfl<|qL rfl ty37 rfl<|qF rfl ty87 rfl<|qG rfl ty54 rfl (Tl rfl)<|Od rfl rfl (C1 (fr:=[]) rfl rfl (h12) fok137 (.own rfl rfl (.cons rfl (.pure rfl) (.cons rfl (.pure rfl) .nil))) rfl rfl rfl (Cn _ _) (by decide) rfl)<|qF rfl ty87 rfl<|qS rfl ty54 (Sl rfl) rfl<|Nl<|qW 138 145 rfl<|qM rfl<|qF rfl ty87 rfl<|qG rfl ty54 rfl (Tl rfl)<|qY rfl (hso2) fok41 rfl<|Od rfl rfl (Nc rfl rfl)<|qF rfl ty26 rfl<|qS rfl ty23 (Sl rfl) rfl<|Nl ?_
     intro yJ KJ hJ
     refine W.renameJ [(0,0),(1,1),(2,15),(3,32)] 4 (by decide) ?_ ?_ (hJ (135,0,tg2,false,((⟨true,0,0⟩:Ad)),[y0,y1,y2,y3,y4,y5],a7) (show ([y0,y1,y2,y3,y4,y5].length=6∧IsB [y0,y1,y2,y3,y4,y5])∧(U64 tg2.hi∧U64 tg2.lo)∧(U64 ((⟨true,0,0⟩:Ad)).hi∧U64 ((⟨true,0,0⟩:Ad)).lo) from ⟨⟨rfl,mS2B⟩,v6_u ktg2,⟨by unfold U64;decide,by unfold U64;decide⟩⟩))
     ·exact lC (lI rfl) (lC (lI rfl) (lC (lI rfl) (lC (lI rfl) lN)))
     ·exact aU (kR rfl) (aU (kR rfl) (aU (kR rfl) (aU (kR rfl) aM)))
   ·
    obtain ⟨j,hj,hjb⟩:=nat_of (nextV_bd l a6 2 (by decide))
    have n9:=next_any l a6 2 (by decide) (by decide) hl
    rw [hj] at n9
    generalize nextAt l a6=a7 at *
    have hsl:([.base (.int .i64 133),.base (.int .i64 134)]:List AV)[0 + j * 1]?=some (.base (.int .i64 (133 + (j:Int)))):=by
     match j,hjb with
     | 0,_=>rfl
     | 1,_=>rfl
     | k + 2,h=>omega
    refine Wq<|qW 53 55 rfl<|qM rfl<|Od rfl rfl (C1 (fr:=[]) rfl rfl (e6) fok49 (.own rfl rfl (.cons rfl (.pure rfl) .nil)) rfl rfl rfl (Cn _ _) (by decide) rfl)<|Nl<|Wb<|Wq<|qW 59 61 rfl<|qE rfl<|qA rfl<|Nl<|Wo rfl ‹_›<|Wq<|qW 95 97 rfl<|qE rfl<|qA rfl<|Nl<|Wt rfl ‹_›<|qW 101 108 rfl<|Od rfl rfl (LO.buildSlice rfl ty27 ty3 (by decide) (by decide) (.cons rfl rfl rfl rfl (Sl rfl) (.cons rfl rfl rfl rfl (Sl rfl) .nil)))<|qM rfl<|Od rfl rfl (C1 (fr:=[]) rfl rfl (n9) fok49 (.own rfl rfl (.cons rfl (.pure rfl) .nil)) rfl rfl rfl (Cn _ _) (by decide) rfl)<|Od rfl rfl (Ia rfl rfl rfl rfl ty27 ty3 (by omega))<|Od rfl rfl (Ld rfl rfl rfl hsl ty3 rfl)<|Od rfl rfl (Bs rfl ty87 (.cons rfl rfl rfl rfl (Sl rfl) .nil))<|qS rfl ty87 (Sl rfl) rfl<|Nl ?_
    intro yJ KJ hJ
    refine W.renameJ [(0,0),(1,1),(2,15),(3,32)] 4 (by decide) ?_ ?_ (hJ (((133 + (j:Int))),0,((⟨false,0,0⟩:Ad)),false,sr,[z0,z1,z2,z3,z4,z5],a7) (show ([z0,z1,z2,z3,z4,z5].length=6∧IsB [z0,z1,z2,z3,z4,z5])∧(U64 ((⟨false,0,0⟩:Ad)).hi∧U64 ((⟨false,0,0⟩:Ad)).lo)∧(U64 sr.hi∧U64 sr.lo) from ⟨⟨rfl,mSB⟩,⟨by unfold U64;decide,by unfold U64;decide⟩,v6_u ksr⟩))
    ·exact lC (lI rfl) (lC (lI rfl) (lC (lI rfl) (lC (lI rfl) lN)))
    ·exact aU (kR rfl) (aU (kR rfl) (aU (kR rfl) (aU (kR rfl) aM)))
  ·
   have n1:=next_any l a6 8 (by decide) (by decide) hl
   generalize nextV l a6 8=fl at *
   generalize nextAt l a6=a7 at *
   obtain ⟨_,_,h7,tg2,a8,htg2,rfl,rfl⟩:=one_any l a7 r.v6 tg hr.n6 hl
   have ktg2:V6Ok tg2:=by
    rcases htg2 with e|e
    ·exact e ▸ ktg
    ·exact hr.v6 _ e
   refine Wq<|qW 53 55 rfl<|qM rfl<|Od rfl rfl (C1 (fr:=[]) rfl rfl (e6) fok49 (.own rfl rfl (.cons rfl (.pure rfl) .nil)) rfl rfl rfl (Cn _ _) (by decide) rfl)<|Nl<|Wb<|Wq<|qW 59 61 rfl<|qE rfl<|qA rfl<|Nl<|Wt rfl ‹_›<|Wq<|Wd 65 79 (by decide) rfl mixed rfl<|qM rfl<|Od rfl rfl (C1 (fr:=[]) rfl rfl (n1) fok49 (.own rfl rfl (.cons rfl (.pure rfl) .nil)) rfl rfl rfl (Cn _ _) (by decide) rfl)<|qM rfl<|qF rfl ty39 rfl<|qL rfl ty37 rfl<|qF rfl ty87 rfl<|qG rfl ty54 rfl (Tl rfl)<|Od rfl rfl (C1 (fr:=[]) rfl rfl (h7) fok137 (.own rfl rfl (.cons rfl (.pure rfl) (.cons rfl (.pure rfl) .nil))) rfl rfl rfl (Cn _ _) (by decide) rfl)<|qF rfl ty87 rfl<|qS rfl ty3 (Sl rfl) rfl<|qF rfl ty87 rfl<|qS rfl ty3 (Sl rfl) rfl<|qF rfl ty87 rfl<|qS rfl ty54 (Sl rfl) rfl<|Nl ⟨by kernel_rfl,(qW 83 91 rfl<|qM rfl<|qF rfl ty39 rfl<|qL rfl ty36 rfl<|qJ rfl rfl ty36 ty23 (by simp;omega)<|Od rfl rfl (Lg rfl rfl ty23 rfl tM)<|Od rfl rfl (Nc rfl rfl)<|qF rfl ty26 rfl<|qS rfl ty23 (Sl rfl) rfl<|Nl ?_)⟩
   intro yJ KJ hJ
   refine W.renameJ [(0,0),(1,1),(2,15),(3,32)] 4 (by decide) ?_ ?_ (hJ (136,fl,tg2,has,sr,[m0,m1,m2,m3,m4,m5],a8) (show ([m0,m1,m2,m3,m4,m5].length=6∧IsB [m0,m1,m2,m3,m4,m5])∧(U64 tg2.hi∧U64 tg2.lo)∧(U64 sr.hi∧U64 sr.lo) from ⟨⟨rfl,mB⟩,v6_u ktg2,v6_u ksr⟩))
   ·exact lC (lI rfl) (lC (lI rfl) (lC (lI rfl) (lC (lI rfl) lN)))
   ·exact aU (kR rfl) (aU (kR rfl) (aU (kR rfl) (aU (kR rfl) aM)))
 obtain ⟨⟨l1,dB⟩,uy,us⟩:=hIJ
 obtain ⟨b0,b1,b2,b3,b4,b5,rfl⟩:=six_of l1
 refine Wq<|W.joinK (α:=List Int × Nat) 4 (fun x=>[(0,.own 0 0),(3,.own 1 0),(8,.own 2 0),(9,.own 3 0)]) (fun x=>up (up (up (up mt 0 (some (deckC l x.2))) 1 (some (frC ⟨[b0,b1,b2,b3,b4,b5],[s0,s1,s2,s3,s4,s5],vl,34525,data⟩))) 2 (some (adC s))) 3 (some (nbC ⟨k,fl,y,h,x.1⟩))) (fun x=>x.1.length=6∧IsB x.1) .nil ?_ ?_
 rotate_left
 rintro ⟨ln,c⟩ hIK
 try (dsimp only at hIK)
 try dsimp only [joinT,baseT,List.cons_append,List.nil_append]
 rotate_right
 ·
  cases h
  ·
   refine Wq<|qW 149 151 rfl<|qF rfl ty87 rfl<|qL rfl ty4 rfl<|Nl<|Wo rfl rfl<|Wu ?_
   intro yJ KJ hJ
   refine W.renameJ [(0,0),(1,1),(2,2),(3,3)] 4 (by decide) ?_ ?_ (hJ ([0,0,0,0,0,0],b) (show [0,0,0,0,0,0].length=6∧IsB [0,0,0,0,0,0] from ⟨rfl,fun x hx=>by simp at hx;omega⟩))
   ·exact lC (lI rfl) (lC (lI rfl) (lC (lI rfl) (lC (lI rfl) lN)))
   ·exact aU (kR rfl) (aU (kR rfl) (aU (kR rfl) (aU (kR rfl) aM)))
  ·
   have n16:=next_any l b 8 (by decide) (by decide) hl
   generalize nextV l b 8=e2 at *
   generalize nextAt l b=b' at *
   cases k7:(e2 == 7)
   ·
    refine Wq<|qW 149 151 rfl<|qF rfl ty87 rfl<|qL rfl ty4 rfl<|Nl<|Wt rfl rfl<|Wq<|qW 155 161 rfl<|qM rfl<|Od rfl rfl (Nc rfl rfl)<|qF rfl ty26 rfl<|qG rfl ty23 rfl (Tl rfl)<|qF rfl ty87 rfl<|qS rfl ty23 (Sl rfl) rfl<|Nl<|Wq<|qW 165 168 rfl<|qM rfl<|Od rfl rfl (C1 (fr:=[]) rfl rfl (n16) fok49 (.own rfl rfl (.cons rfl (.pure rfl) .nil)) rfl rfl rfl (Cn _ _) (by decide) rfl)<|qE rfl<|Nl<|Wo rfl ‹_›<|Wu ?_
    intro yJ KJ hJ
    refine W.renameJ [(0,0),(1,1),(2,2),(3,3)] 4 (by decide) ?_ ?_ (hJ ([s0,s1,s2,s3,s4,s5],(b')) (show [s0,s1,s2,s3,s4,s5].length=6∧IsB [s0,s1,s2,s3,s4,s5] from ⟨rfl,sB⟩))
    ·exact lC (lI rfl) (lC (lI rfl) (lC (lI rfl) (lC (lI rfl) lN)))
    ·exact aU (kR rfl) (aU (kR rfl) (aU (kR rfl) (aU (kR rfl) aM)))
   ·
    refine Wq<|qW 149 151 rfl<|qF rfl ty87 rfl<|qL rfl ty4 rfl<|Nl<|Wt rfl rfl<|Wq<|qW 155 161 rfl<|qM rfl<|Od rfl rfl (Nc rfl rfl)<|qF rfl ty26 rfl<|qG rfl ty23 rfl (Tl rfl)<|qF rfl ty87 rfl<|qS rfl ty23 (Sl rfl) rfl<|Nl<|Wq<|qW 165 168 rfl<|qM rfl<|Od rfl rfl (C1 (fr:=[]) rfl rfl (n16) fok49 (.own rfl rfl (.cons rfl (.pure rfl) .nil)) rfl rfl rfl (Cn _ _) (by decide) rfl)<|qE rfl<|Nl<|Wt rfl ‹_›<|qW 172 175 rfl<|qY rfl (mac_any 7) fok130 rfl<|qF rfl ty87 rfl<|qS rfl ty23 (Sl rfl) rfl<|Nl ?_
    intro yJ KJ hJ
    refine W.renameJ [(0,0),(1,1),(2,2),(3,3)] 4 (by decide) ?_ ?_ (hJ (((macF 7)),(b')) (show ((macF 7)).length=6∧IsB ((macF 7)) from ⟨rfl,macF_isB 7⟩))
    ·exact lC (lI rfl) (lC (lI rfl) (lC (lI rfl) (lC (lI rfl) lN)))
    ·exact aU (kR rfl) (aU (kR rfl) (aU (kR rfl) (aU (kR rfl) aM)))
 obtain ⟨l6,lB⟩:=hIK
 obtain ⟨w0,w1,w2,w3,w4,w5,rfl⟩:=six_of l6
 have n18:=next_any l c 9 (by decide) (by decide) hl
 have b18:=nextV_bd l c 9 (by decide)
 generalize nextV l c 9=q4 at *
 generalize nextAt l c=c1 at *
 have usix:=(sixA_ok (n:=q4) (by omega) (by omega)).2
 have henc:=encX_any ⟨k,fl,y,h,[w0,w1,w2,w3,w4,w5]⟩ s (sixA q4) rfl lB uy.1 uy.2 us.1 us.2 usix.1 usix.2
 unfold encV at henc
 have hP:∀ n:Nb,n.ln.length=6→IsB n.ln→∀ d:Ad,U64 d.hi∧U64 d.lo→(IsB (if okN n s d then encN n s d else zPk).bs∧(if okN n s d then encN n s d else zPk).bs.length≤100)∧(U64 (if okN n s d then encN n s d else zPk).s.hi∧U64 (if okN n s d then encN n s d else zPk).s.lo)∧U64 (if okN n s d then encN n s d else zPk).d.hi∧U64 (if okN n s d then encN n s d else zPk).d.lo:=fun n hn6 hnB d hd=>by
  split
  ·refine ⟨⟨?_,?_⟩,us,hd⟩
   ·exact ((encL_isB hnB).set _ (u8_bd _)).set _ (u8_bd _)
   ·unfold encN sumL2
    dsimp only
    rw [List.length_set,List.length_set]
    have:=(encL_len hn6).2
    omega
  ·exact ⟨⟨fun x hx=>by simp [zPk] at hx,by simp [zPk]⟩,⟨by unfold U64;decide,by unfold U64;decide⟩,⟨by unfold U64;decide,by unfold U64;decide⟩⟩
 obtain ⟨⟨pB,pL⟩,us2,ud2⟩:=hP ⟨k,fl,y,h,[w0,w1,w2,w3,w4,w5]⟩ rfl lB (sixA q4) usix
 generalize (if okN ⟨k,fl,y,h,[w0,w1,w2,w3,w4,w5]⟩ s (sixA q4)=true then encN ⟨k,fl,y,h,[w0,w1,w2,w3,w4,w5]⟩ s (sixA q4) else zPk)=P at *
 generalize (if okN ⟨k,fl,y,h,[w0,w1,w2,w3,w4,w5]⟩ s (sixA q4)=true then (0:Int) else 1)=pe at *
 have n19:=next_any l c1 9 (by decide) (by decide) hl
 generalize nextV l c1 9=e9 at *
 generalize nextAt l c1=c2 at *
 refine Wq<|Wd 179 191 (by decide) rfl mixed rfl<|qG rfl ty87 rfl (Tl rfl)<|qG rfl ty54 rfl (Tl rfl)<|qM rfl<|Od rfl rfl (C1 (fr:=[]) rfl rfl (n18) fok49 (.own rfl rfl (.cons rfl (.pure rfl) .nil)) rfl rfl rfl (Cn _ _) (by decide) rfl)<|qY rfl (sixM_any q4 (by omega) (by omega)) fok100 rfl<|qY rfl (henc) fok42 rfl<|qM rfl<|qX rfl<|qX rfl<|qB rfl ty83<|qS rfl ty83 (Sl rfl) rfl<|qA rfl<|Nl ⟨by kernel_rfl,(Wq<|W.joinK (α:=Int) 3 (fun x=>[(0,.own 0 0),(3,.own 1 0),(10,.own 2 0)]) (fun x=>up (up (up mt 0 (some (deckC l c2))) 1 (some (frC ⟨[b0,b1,b2,b3,b4,b5],[s0,s1,s2,s3,s4,s5],vl,34525,data⟩))) 2 (some (pkC ⟨P.s,P.d,P.p,x,P.bs⟩))) (fun x=>True) .nil ?_ ?_)⟩
 rotate_left
 rintro t hIM
 try (dsimp only at hIM)
 try dsimp only [joinT,baseT,List.cons_append,List.nil_append]
 rotate_right
 ·
  cases k8:(e9 == 8)
  ·
   refine Wq<|qW 195 198 rfl<|qM rfl<|Od rfl rfl (C1 (fr:=[]) rfl rfl (n19) fok49 (.own rfl rfl (.cons rfl (.pure rfl) .nil)) rfl rfl rfl (Cn _ _) (by decide) rfl)<|qE rfl<|Nl<|Wo rfl ‹_›<|Wu ?_
   intro yJ KJ hJ
   refine W.renameJ [(0,0),(1,1),(2,188)] 3 (by decide) ?_ ?_ (hJ P.t (show True from trivial))
   ·exact lC (lI rfl) (lC (lI rfl) (lC (lI rfl) lN))
   ·exact aU (kR rfl) (aU (kR rfl) (aU (kR rfl) aM))
  ·
   refine Wq<|qW 195 198 rfl<|qM rfl<|Od rfl rfl (C1 (fr:=[]) rfl rfl (n19) fok49 (.own rfl rfl (.cons rfl (.pure rfl) .nil)) rfl rfl rfl (Cn _ _) (by decide) rfl)<|qE rfl<|Nl<|Wt rfl ‹_›<|qW 202 204 rfl<|qF rfl ty83 rfl<|qS rfl ty3 (Sl rfl) rfl<|Nl ?_
   intro yJ KJ hJ
   refine W.renameJ [(0,0),(1,1),(2,188)] 3 (by decide) ?_ ?_ (hJ 254 (show True from trivial))
   ·exact lC (lI rfl) (lC (lI rfl) (lC (lI rfl) lN))
   ·exact aU (kR rfl) (aU (kR rfl) (aU (kR rfl) aM))
 have hre:=renc_any ⟨P.s,P.d,P.p,t,P.bs⟩ us2.1 us2.2 ud2.1 ud2.2 pB
 obtain ⟨oB,oL⟩:=encL2_ok ⟨P.s,P.d,P.p,t,P.bs⟩ pB
 unfold ecV at hre
 have oL:(encL2 ⟨P.s,P.d,P.p,t,P.bs⟩).length≤1000:=by dsimp only at oL;omega
 generalize encL2 ⟨P.s,P.d,P.p,t,P.bs⟩=B at *
 generalize encE ⟨P.s,P.d,P.p,t,P.bs⟩=be at *
 refine qW 208 217 rfl<|qM rfl<|qG rfl ty83 rfl (Tl rfl)<|qY rfl (hre) fok43 rfl<|qM rfl<|qX rfl<|qX rfl<|Od rfl rfl (Nc rfl rfl)<|qF rfl ty26 rfl<|qS rfl ty24 (Sl rfl) rfl<|Nl ?_
 refine ⟨.inr rfl,_,up (up mt 1 (some (frC ⟨[b0,b1,b2,b3,b4,b5],[s0,s1,s2,s3,s4,s5],vl,34525,B⟩))) 0 (some (deckC l c2)),RVs.nil,(aU rfl (aU rfl aM)),?_⟩
 exact ⟨_,c2,.mk6 ⟨rfl,dB⟩ ⟨rfl,sB⟩ ⟨oB,by omega⟩,rfl,rfl⟩
set_option maxHeartbeats 2000000 in
theorem spo_any (l:List Int) (a b:Int) (hB:IsB l) (hl:l.length≤100000):∃ L:List Int,(IsB L∧L.length≤l.length + 1)∧AFn Tryz.prog 32 0 [.isl (bytesC l) l.length,.base (.int .i64 a),.base (.int .i64 b)] mt (.isl (bytesC L) L.length) mt:=by
 obtain ⟨v,hv⟩:∃ v,IntKind.u8.wrap b=v:=⟨_,rfl⟩
 have hvb:0≤v∧v≤255:=by rw [← hv];exact u8_bd _
 by_cases h0:l.length=0
 ·have hnil:l=[]:=List.eq_nil_of_length_eq_zero h0
  subst hnil
  refine ⟨[v],⟨fun x hx=>by rw [List.mem_singleton] at hx;subst hx;exact hvb,by simp⟩,?_⟩
  refine AFn.eq Tryz.func32 rfl rfl (Nat.le_of_ble_eq_true rfl)<|Wq<|qW 0 1 rfl<|qA rfl<|Nl<|Wq<|qW 5 8 rfl<|qM rfl<|Od rfl rfl (Lan rfl rfl (Ssi rfl rfl rfl) ty24 ty24 ty5 (by decide) (by decide) (by decide) (by decide))<|qA rfl<|Nl<|Wq<|Wq<|qW 12 15 rfl<|qM rfl<|Od rfl rfl (LO.len rfl rfl ty24)<|qE rfl<|Nl<|Wt rfl rfl<|Wq<|qW 19 23 rfl<|qM rfl<|Od rfl rfl (LO.conv rfl rfl ty3 ty5)<|Od rfl rfl (LO.buildSlice rfl ty24 ty5 (by decide) (by decide) (.cons rfl rfl rfl rfl (Sl rfl) .nil))<|qA rfl<|Nl ?_
  rw [hv]
  refine Wy (t:=6) rfl rfl (bytes_tk (l:=[v]) rfl) (bytesC_pure _)<|Wz ⟨.inl rfl,_,mt,(Rc (Rt0 rfl) Rv),aM,?_⟩
  exact ⟨rfl,rfl⟩
 ·obtain ⟨k,hk1,hk2⟩:=emod_nat a (show 0 < l.length by omega)
  have hm1:=mod_any a l.length (by omega) (by omega)
  rw [hk1] at hm1
  have g0:((l.length:Int) == 0)=false:=by rw [beq_eq_false_iff_ne];omega
  obtain ⟨q,hq1,hq2⟩:=emod_nat (IntKind.i64.wrap (b.tdiv 256)) (show 0 < 4 by decide)
  have hm2:=mod_any (IntKind.i64.wrap (b.tdiv 256)) 4 (by decide) (by decide)
  rw [show IntKind.i64.wrap (b.tdiv 256) % 4=(q:Int) from hq1] at hm2
  have hkt:(l.take k).length=k:=by rw [List.length_take];exact Nat.min_eq_left (by omega)
  have hkd:(l.drop k).length=l.length - k:=by simp
  have hkd1:(l.drop (k + 1)).length=l.length - (k + 1):=by simp
  rcases (show q=0∨q=1∨q=2∨q=3 by omega) with rfl|rfl|rfl|rfl
  ·refine ⟨l.set k v,⟨hB.set k hvb,by simp⟩,?_⟩
   refine AFn.eq Tryz.func32 rfl rfl (Nat.le_of_ble_eq_true rfl)<|Wq<|qW 0 1 rfl<|qA rfl<|Nl<|Wq<|qW 5 8 rfl<|qM rfl<|Od rfl rfl (Lan rfl rfl (Ssi rfl rfl (by simp [bytesC_len])) ty24 ty24 ty5 (by decide) (by omega) (by omega) (by decide))<|qA rfl<|Nl<|Wq<|Wq<|qW 12 15 rfl<|qM rfl<|Od rfl rfl (LO.len rfl rfl ty24)<|qE rfl<|Nl<|Wo rfl ‹_›<|Wu<|Wq<|qW 27 32 rfl<|qM rfl<|qM rfl<|Od rfl rfl (LO.len rfl rfl ty24)<|qY rfl (hm1) fok17 rfl<|qA rfl<|Nl<|Wq<|Wq<|qW 36 39 rfl<|qM rfl<|Od rfl rfl (LO.quo rfl rfl rfl (by decide))<|qY rfl (hm2) fok17 rfl<|Nl<|Wb<|Wq<|qW 43 45 rfl<|qE rfl<|qA rfl<|Nl<|Wt rfl (rfl)<|qW 49 55 rfl<|qM rfl<|qM rfl<|qM rfl<|Od rfl rfl (LO.conv rfl rfl ty3 ty5)<|Od rfl rfl (Ia rfl rfl rfl rfl ty24 ty5 (by omega))<|qS rfl ty5 (by_sp (by omega)) rfl<|Nl ?_
   rw [hv]
   refine Wq<|qW 109 111 rfl<|qM rfl<|qA rfl<|Nl ?_
   have hsl:(l.set k v).length=l.length:=by simp
   refine Wy (t:=6) rfl rfl (bytes_tk (l:=l.set k v) hsl) (bytesC_pure _)<|Wz ⟨.inl rfl,_,mt,(Rc (Rt0 rfl) Rv),aM,?_⟩
   exact ⟨by rw [hsl];rfl,rfl⟩
  ·refine ⟨l.take k++l.drop (k + 1),⟨(hB.take k).append (hB.drop (k + 1)),by simp;omega⟩,?_⟩
   refine AFn.eq Tryz.func32 rfl rfl (Nat.le_of_ble_eq_true rfl)<|Wq<|qW 0 1 rfl<|qA rfl<|Nl<|Wq<|qW 5 8 rfl<|qM rfl<|Od rfl rfl (Lan rfl rfl (Ssi rfl rfl (by simp [bytesC_len])) ty24 ty24 ty5 (by decide) (by omega) (by omega) (by decide))<|qA rfl<|Nl<|Wq<|Wq<|qW 12 15 rfl<|qM rfl<|Od rfl rfl (LO.len rfl rfl ty24)<|qE rfl<|Nl<|Wo rfl ‹_›<|Wu<|Wq<|qW 27 32 rfl<|qM rfl<|qM rfl<|Od rfl rfl (LO.len rfl rfl ty24)<|qY rfl (hm1) fok17 rfl<|qA rfl<|Nl<|Wq<|Wq<|qW 36 39 rfl<|qM rfl<|Od rfl rfl (LO.quo rfl rfl rfl (by decide))<|qY rfl (hm2) fok17 rfl<|Nl<|Wb<|Wq<|qW 43 45 rfl<|qE rfl<|qA rfl<|Nl<|Wo rfl (rfl)<|Wq<|qW 59 61 rfl<|qE rfl<|qA rfl<|Nl<|Wt rfl (rfl) ?_
   have hka:(k:Int) + 1=((k + 1:Nat):Int):=by omega
   refine Wq<|Wd 65 74 (by decide) rfl mixed rfl<|qM rfl<|qM rfl<|Od rfl rfl (LO.slice rfl rfl Bnd.no (Ba rfl rfl) (by omega) (by omega) ty24 ty5)<|qM rfl<|qM rfl<|qZ rfl (iW _ (by omega))<|Od rfl rfl (LO.slice rfl rfl (Ba rfl rfl) Bnd.no ‹_› (by omega) ty24 ty5)<|Od rfl rfl (Lap rfl rfl (Sso rfl rfl (by_from (l:=l) (k:=k + 1) (m:=l.length - (k + 1)) (by omega))) rfl (by_take (by omega)) ty24 ty24 ty5 (by decide) (by omega) (by omega) (by decide))<|qA rfl<|Nl ⟨by kernel_rfl,(Wy (t:=6) rfl rfl (cs:=bytesC (l.take k)++bytesC (l.drop (k + 1))) (by rw [← bytesC_app];exact bytes_tk (l:=l.take k++l.drop (k + 1)) (by rw [List.length_append,hkt,hkd1];rfl)) (bytesC_pure _)<|Wz ⟨.inl rfl,_,mt,(Rc (Rt0 rfl) Rv),aM,?_⟩)⟩
   exact ⟨by rw [List.length_append,hkt,hkd1];rfl,rfl⟩
  ·refine ⟨l.take k++[v]++l.drop k,⟨((hB.take k).append (fun x hx=>by rw [List.mem_singleton] at hx;subst hx;exact hvb)).append (hB.drop k),by simp;omega⟩,?_⟩
   refine AFn.eq Tryz.func32 rfl rfl (Nat.le_of_ble_eq_true rfl)<|Wq<|qW 0 1 rfl<|qA rfl<|Nl<|Wq<|qW 5 8 rfl<|qM rfl<|Od rfl rfl (Lan rfl rfl (Ssi rfl rfl (by simp [bytesC_len])) ty24 ty24 ty5 (by decide) (by omega) (by omega) (by decide))<|qA rfl<|Nl<|Wq<|Wq<|qW 12 15 rfl<|qM rfl<|Od rfl rfl (LO.len rfl rfl ty24)<|qE rfl<|Nl<|Wo rfl ‹_›<|Wu<|Wq<|qW 27 32 rfl<|qM rfl<|qM rfl<|Od rfl rfl (LO.len rfl rfl ty24)<|qY rfl (hm1) fok17 rfl<|qA rfl<|Nl<|Wq<|Wq<|qW 36 39 rfl<|qM rfl<|Od rfl rfl (LO.quo rfl rfl rfl (by decide))<|qY rfl (hm2) fok17 rfl<|Nl<|Wb<|Wq<|qW 43 45 rfl<|qE rfl<|qA rfl<|Nl<|Wo rfl (rfl)<|Wq<|qW 59 61 rfl<|qE rfl<|qA rfl<|Nl<|Wo rfl (rfl)<|Wq<|qW 78 80 rfl<|qE rfl<|qA rfl<|Nl<|Wt rfl (rfl)<|Wq<|Wd 84 97 (by decide) rfl mixed rfl<|qM rfl<|qM rfl<|Od rfl rfl (LO.slice rfl rfl Bnd.no (Ba rfl rfl) (by omega) (by omega) ty24 ty5)<|Od rfl rfl (Lan rfl rfl (Sso rfl rfl (by_take (by omega))) ty24 ty24 ty5 (by decide) (by omega) (by omega) (by decide))<|qM rfl<|Od rfl rfl (LO.conv rfl rfl ty3 ty5)<|Od rfl rfl (LO.buildSlice rfl ty24 ty5 (by decide) (by decide) (.cons rfl rfl rfl rfl (Sl rfl) .nil))<|Od rfl rfl (Lap rfl rfl (Sso rfl rfl (Tl rfl)) rfl (bytes_tk (l:=l.take k) (by omega)) ty24 ty24 ty5 (by decide) (by omega) (by omega) (by decide))<|qM rfl<|qM rfl<|Od rfl rfl (LO.slice rfl rfl (Ba rfl rfl) Bnd.no (by omega) (by omega) ty24 ty5)<|Od rfl rfl (Lap rfl rfl (Sso rfl rfl (by_from (l:=l) (k:=k) (m:=l.length - k) (by omega))) rfl (by rw [← bytesC_1,← bytesC_app];exact bytes_tk (l:=l.take k++[IntKind.u8.wrap b]) (by rw [List.length_append,hkt];simp)) ty24 ty24 ty5 (by decide) (by omega) (by omega) (by decide))<|qA rfl<|Nl ⟨by kernel_rfl,?_⟩
   rw [hv]
   refine Wy (t:=6) rfl rfl (cs:=bytesC (l.take k++[v])++bytesC (l.drop k)) (by rw [← bytesC_app];exact bytes_tk (l:=l.take k++[v]++l.drop k) (by rw [List.length_append,List.length_append,hkt,hkd];rfl)) (bytesC_pure _)<|Wz ⟨.inl rfl,_,mt,(Rc (Rt0 rfl) Rv),aM,?_⟩
   exact ⟨by rw [List.length_append,List.length_append,hkt,hkd];rfl,rfl⟩
  ·refine ⟨l.take k,⟨hB.take k,by omega⟩,?_⟩
   refine AFn.eq Tryz.func32 rfl rfl (Nat.le_of_ble_eq_true rfl)<|Wq<|qW 0 1 rfl<|qA rfl<|Nl<|Wq<|qW 5 8 rfl<|qM rfl<|Od rfl rfl (Lan rfl rfl (Ssi rfl rfl (by simp [bytesC_len])) ty24 ty24 ty5 (by decide) (by omega) (by omega) (by decide))<|qA rfl<|Nl<|Wq<|Wq<|qW 12 15 rfl<|qM rfl<|Od rfl rfl (LO.len rfl rfl ty24)<|qE rfl<|Nl<|Wo rfl ‹_›<|Wu<|Wq<|qW 27 32 rfl<|qM rfl<|qM rfl<|Od rfl rfl (LO.len rfl rfl ty24)<|qY rfl (hm1) fok17 rfl<|qA rfl<|Nl<|Wq<|Wq<|qW 36 39 rfl<|qM rfl<|Od rfl rfl (LO.quo rfl rfl rfl (by decide))<|qY rfl (hm2) fok17 rfl<|Nl<|Wb<|Wq<|qW 43 45 rfl<|qE rfl<|qA rfl<|Nl<|Wo rfl (rfl)<|Wq<|qW 59 61 rfl<|qE rfl<|qA rfl<|Nl<|Wo rfl (rfl)<|Wq<|qW 78 80 rfl<|qE rfl<|qA rfl<|Nl<|Wo rfl (rfl)<|Wq<|qW 101 105 rfl<|qM rfl<|qM rfl<|Od rfl rfl (LO.slice rfl rfl Bnd.no (Ba rfl rfl) (by omega) (by omega) ty24 ty5)<|qA rfl<|Nl<|Wy (t:=6) rfl rfl (by_take (by omega)) (bytesC_pure _)<|Wz ⟨.inl rfl,_,mt,(Rc (Rt0 rfl) Rv),aM,?_⟩
   exact ⟨by rw [hkt];rfl,rfl⟩
theorem zeros_bytes (n:Nat):zerosL n [.base (.int .u8 0)]=bytesC (List.replicate n 0):=by
 unfold zerosL bytesC
 rw [List.map_replicate]
 refine List.ext_getElem (by simp) fun k h1 h2=>?_
 simp
theorem isB6 {a b c d e:Int} (h:(0≤a∧a≤255)∧(0≤b∧b≤255)∧(0≤c∧c≤255)∧(0≤d∧d≤255)∧(0≤e∧e≤255)) (q:Int):IsB [a,b,c,d,e,IntKind.u8.wrap q]:=fun x hx=>by
 have:=u8_bd q
 simp only [List.mem_cons,List.not_mem_nil,or_false] at hx
 rcases hx with rfl|rfl|rfl|rfl|rfl|rfl<;>omega
set_option maxHeartbeats 8000000 in
theorem oddM_any (l:List Int) (at_:Nat) (f:Fr) (hf:FrG f) (hl:l.length≤9223372036854775807) :
 ∃ v H',AFn Tryz.prog 101 1 [.own 0 0,.agg (frC f)] (up mt 0 (some (deckC l at_))) v H' ∧
  ∃ (g:Fr) (at':Nat),FrY g∧v=.agg (frC g)∧H'=up mt 0 (some (deckC l at')):=by
 refine AFn.ex Tryz.func101 rfl rfl (Nat.le_of_ble_eq_true rfl) ?_
 obtain ⟨dst,src,vl,ty,data⟩:=f
 have d6:=hf.ok.d6
 have s6:=hf.ok.s6
 have dB:=hf.dB
 have sB:=hf.sB
 have bB:=hf.ok.bB
 have bl:data.length≤99999:=Nat.le_succ_of_le hf.dl
 have hfl:=hf.dl
 clear hf
 dsimp only at d6 s6 dB sB bB bl hfl
 obtain ⟨d0,d1,d2,d3,d4,d5,rfl⟩:=six_of d6
 obtain ⟨s0,s1,s2,s3,s4,s5,rfl⟩:=six_of s6
 have e1:=next_any l at_ 20 (by decide) (by decide) hl
 generalize nextV l at_ 20=e at *
 generalize nextAt l at_=a1 at *
 refine Wq<|qW 1 3 rfl<|qC rfl<|qB rfl ty26<|Nl<|Wq<|W.joinK (α:=Fr × Nat) 3 (fun x=>[(0,.own 0 0),(3,.own 1 0),(4,.own 2 0)]) (fun x=>up (up (up mt 0 (some (deckC l x.2))) 1 (some (frC x.1))) 2 (some ([.base (.int .u8 0),.base (.int .u8 0),.base (.int .u8 0),.base (.int .u8 0),.base (.int .u8 0),.base (.int .u8 0),.base (.int .u8 0),.base (.int .u8 0),.base (.int .u8 0),.base (.int .u8 0),.base (.int .u8 0),.base (.int .u8 0),.base (.int .i64 0),.base (.int .i64 0),.nils]))) (fun x=>FrY x.1) .nil ?_ ?_
 rotate_left
 rintro ⟨g,b⟩ hIJ
 try (dsimp only at hIJ)
 try dsimp only [joinT,baseT,List.cons_append,List.nil_append]
 rotate_right
 ·
  by_cases k10:(e == 10)=true
  case' pos =>
   have m1:=next_any l a1 300 (by decide) (by decide) hl
   generalize nextV l a1 300=q at *
   generalize nextAt l a1=a2 at *
   refine Wq<|qW 7 9 rfl<|qM rfl<|Od rfl rfl (C1 (fr:=[]) rfl rfl (e1) fok49 (.own rfl rfl (.cons rfl (.pure rfl) .nil)) rfl rfl rfl (Cn _ _) (by decide) rfl)<|Nl<|Wb<|Wq<|qW 13 15 rfl<|qE rfl<|qA rfl<|Nl<|Wt rfl ‹_›<|qW 19 24 rfl<|qM rfl<|Od rfl rfl (C1 (fr:=[]) rfl rfl (m1) fok49 (.own rfl rfl (.cons rfl (.pure rfl) .nil)) rfl rfl rfl (Cn _ _) (by decide) rfl)<|qY rfl (mac_any q) fok130 rfl<|qF rfl ty26 rfl<|qS rfl ty23 (Sl rfl) rfl<|Nl ?_
   intro yJ KJ hJ
   refine W.renameJ [(0,0),(1,1),(2,2)] 3 (by decide) ?_ ?_ (hJ (((⟨[d0,d1,d2,d3,d4,d5],macF q,vl,ty,data⟩:Fr)),a2) (show FrY ((⟨[d0,d1,d2,d3,d4,d5],macF q,vl,ty,data⟩:Fr)) from .mk6 ⟨rfl,dB⟩ ⟨rfl,macF_isB q⟩ ⟨bB,bl⟩))
   ·exact lC (lI rfl) (lC (lI rfl) (lC (lI rfl) lN))
   ·exact aU (kR rfl) (aU (kR rfl) (aU (kR rfl) aM))
  case' neg =>
   have k10:(e == 10)=false:=by simpa using k10
   by_cases k11:(e == 11)=true
   case' pos =>
    have m1:=next_any l a1 4094 (by decide) (by decide) hl
    have mb:=nextV_bd l a1 4094 (by decide)
    generalize nextV l a1 4094=q at *
    generalize nextAt l a1=a2 at *
    refine Wq<|qW 7 9 rfl<|qM rfl<|Od rfl rfl (C1 (fr:=[]) rfl rfl (e1) fok49 (.own rfl rfl (.cons rfl (.pure rfl) .nil)) rfl rfl rfl (Cn _ _) (by decide) rfl)<|Nl<|Wb<|Wq<|qW 13 15 rfl<|qE rfl<|qA rfl<|Nl<|Wo rfl ‹_›<|Wq<|qW 28 30 rfl<|qE rfl<|qA rfl<|Nl<|Wt rfl ‹_›<|qW 34 39 rfl<|qM rfl<|Od rfl rfl (C1 (fr:=[]) rfl rfl (m1) fok49 (.own rfl rfl (.cons rfl (.pure rfl) .nil)) rfl rfl rfl (Cn _ _) (by decide) rfl)<|qZ rfl (iW _ (by omega))<|qF rfl ty26 rfl<|qS rfl ty3 (Sl rfl) rfl<|Nl ?_
    intro yJ KJ hJ
    refine W.renameJ [(0,0),(1,1),(2,2)] 3 (by decide) ?_ ?_ (hJ (((⟨[d0,d1,d2,d3,d4,d5],[s0,s1,s2,s3,s4,s5],1 + q,ty,data⟩:Fr)),a2) (show FrY ((⟨[d0,d1,d2,d3,d4,d5],[s0,s1,s2,s3,s4,s5],1 + q,ty,data⟩:Fr)) from .mk6 ⟨rfl,dB⟩ ⟨rfl,sB⟩ ⟨bB,bl⟩))
    ·exact lC (lI rfl) (lC (lI rfl) (lC (lI rfl) lN))
    ·exact aU (kR rfl) (aU (kR rfl) (aU (kR rfl) aM))
   case' neg =>
    have k11:(e == 11)=false:=by simpa using k11
    by_cases k12:(e == 12)=true
    case' pos =>
     have m1:=next_any l a1 60000 (by decide) (by decide) hl
     have mb:=nextV_bd l a1 60000 (by decide)
     generalize nextV l a1 60000=q at *
     generalize nextAt l a1=a2 at *
     refine Wq<|qW 7 9 rfl<|qM rfl<|Od rfl rfl (C1 (fr:=[]) rfl rfl (e1) fok49 (.own rfl rfl (.cons rfl (.pure rfl) .nil)) rfl rfl rfl (Cn _ _) (by decide) rfl)<|Nl<|Wb<|Wq<|qW 13 15 rfl<|qE rfl<|qA rfl<|Nl<|Wo rfl ‹_›<|Wq<|qW 28 30 rfl<|qE rfl<|qA rfl<|Nl<|Wo rfl ‹_›<|Wq<|qW 43 45 rfl<|qE rfl<|qA rfl<|Nl<|Wt rfl ‹_›<|qW 49 54 rfl<|qM rfl<|Od rfl rfl (C1 (fr:=[]) rfl rfl (m1) fok49 (.own rfl rfl (.cons rfl (.pure rfl) .nil)) rfl rfl rfl (Cn _ _) (by decide) rfl)<|qZ rfl (iW _ (by omega))<|qF rfl ty26 rfl<|qS rfl ty3 (Sl rfl) rfl<|Nl ?_
     intro yJ KJ hJ
     refine W.renameJ [(0,0),(1,1),(2,2)] 3 (by decide) ?_ ?_ (hJ (((⟨[d0,d1,d2,d3,d4,d5],[s0,s1,s2,s3,s4,s5],vl,1536 + q,data⟩:Fr)),a2) (show FrY ((⟨[d0,d1,d2,d3,d4,d5],[s0,s1,s2,s3,s4,s5],vl,1536 + q,data⟩:Fr)) from .mk6 ⟨rfl,dB⟩ ⟨rfl,sB⟩ ⟨bB,bl⟩))
     ·exact lC (lI rfl) (lC (lI rfl) (lC (lI rfl) lN))
     ·exact aU (kR rfl) (aU (kR rfl) (aU (kR rfl) aM))
    case' neg =>
     have k12:(e == 12)=false:=by simpa using k12
     by_cases k13:(e == 13)=true
     case' pos =>
      have m1:=next_any l a1 32 (by decide) (by decide) hl
      generalize nextV l a1 32=q at *
      generalize nextAt l a1=a2 at *
      refine Wq<|qW 7 9 rfl<|qM rfl<|Od rfl rfl (C1 (fr:=[]) rfl rfl (e1) fok49 (.own rfl rfl (.cons rfl (.pure rfl) .nil)) rfl rfl rfl (Cn _ _) (by decide) rfl)<|Nl<|Wb<|Wq<|qW 13 15 rfl<|qE rfl<|qA rfl<|Nl<|Wo rfl ‹_›<|Wq<|qW 28 30 rfl<|qE rfl<|qA rfl<|Nl<|Wo rfl ‹_›<|Wq<|qW 43 45 rfl<|qE rfl<|qA rfl<|Nl<|Wo rfl ‹_›<|Wq<|qW 58 60 rfl<|qE rfl<|qA rfl<|Nl<|Wt rfl ‹_›<|qW 64 70 rfl<|qM rfl<|Od rfl rfl (C1 (fr:=[]) rfl rfl (m1) fok49 (.own rfl rfl (.cons rfl (.pure rfl) .nil)) rfl rfl rfl (Cn _ _) (by decide) rfl)<|Od rfl rfl (LO.conv rfl rfl ty3 ty5)<|Od rfl rfl (LO.build_ar rfl ty23 ty5 (.cons rfl rfl rfl rfl (Sl rfl) (.cons rfl rfl rfl rfl (Sl rfl) (.cons rfl rfl rfl rfl (Sl rfl) (.cons rfl rfl rfl rfl (Sl rfl) (.cons rfl rfl rfl rfl (Sl rfl) (.cons rfl rfl rfl rfl (Sl rfl) .nil)))))))<|qF rfl ty26 rfl<|qS rfl ty23 (Sl rfl) rfl<|Nl ?_
      intro yJ KJ hJ
      refine W.renameJ [(0,0),(1,1),(2,2)] 3 (by decide) ?_ ?_ (hJ (((⟨[1,128,194,0,0,IntKind.u8.wrap q],[s0,s1,s2,s3,s4,s5],vl,ty,data⟩:Fr)),a2) (show FrY ((⟨[1,128,194,0,0,IntKind.u8.wrap q],[s0,s1,s2,s3,s4,s5],vl,ty,data⟩:Fr)) from .mk6 ⟨rfl,isB6 (by decide) q⟩ ⟨rfl,sB⟩ ⟨bB,bl⟩))
      ·exact lC (lI rfl) (lC (lI rfl) (lC (lI rfl) lN))
      ·exact aU (kR rfl) (aU (kR rfl) (aU (kR rfl) aM))
     case' neg =>
      have k13:(e == 13)=false:=by simpa using k13
      by_cases k14:(e == 14)=true
      case' pos =>
       have m1:=next_any l a1 256 (by decide) (by decide) hl
       generalize nextV l a1 256=q at *
       generalize nextAt l a1=a2 at *
       refine Wq<|qW 7 9 rfl<|qM rfl<|Od rfl rfl (C1 (fr:=[]) rfl rfl (e1) fok49 (.own rfl rfl (.cons rfl (.pure rfl) .nil)) rfl rfl rfl (Cn _ _) (by decide) rfl)<|Nl<|Wb<|Wq<|qW 13 15 rfl<|qE rfl<|qA rfl<|Nl<|Wo rfl ‹_›<|Wq<|qW 28 30 rfl<|qE rfl<|qA rfl<|Nl<|Wo rfl ‹_›<|Wq<|qW 43 45 rfl<|qE rfl<|qA rfl<|Nl<|Wo rfl ‹_›<|Wq<|qW 58 60 rfl<|qE rfl<|qA rfl<|Nl<|Wo rfl ‹_›<|Wq<|qW 74 76 rfl<|qE rfl<|qA rfl<|Nl<|Wt rfl ‹_›<|qW 80 86 rfl<|qM rfl<|Od rfl rfl (C1 (fr:=[]) rfl rfl (m1) fok49 (.own rfl rfl (.cons rfl (.pure rfl) .nil)) rfl rfl rfl (Cn _ _) (by decide) rfl)<|Od rfl rfl (LO.conv rfl rfl ty3 ty5)<|Od rfl rfl (LO.build_ar rfl ty23 ty5 (.cons rfl rfl rfl rfl (Sl rfl) (.cons rfl rfl rfl rfl (Sl rfl) (.cons rfl rfl rfl rfl (Sl rfl) (.cons rfl rfl rfl rfl (Sl rfl) (.cons rfl rfl rfl rfl (Sl rfl) (.cons rfl rfl rfl rfl (Sl rfl) .nil)))))))<|qF rfl ty26 rfl<|qS rfl ty23 (Sl rfl) rfl<|Nl ?_
       intro yJ KJ hJ
       refine W.renameJ [(0,0),(1,1),(2,2)] 3 (by decide) ?_ ?_ (hJ (((⟨[1,0,94,0,0,IntKind.u8.wrap q],[s0,s1,s2,s3,s4,s5],vl,ty,data⟩:Fr)),a2) (show FrY ((⟨[1,0,94,0,0,IntKind.u8.wrap q],[s0,s1,s2,s3,s4,s5],vl,ty,data⟩:Fr)) from .mk6 ⟨rfl,isB6 (by decide) q⟩ ⟨rfl,sB⟩ ⟨bB,bl⟩))
       ·exact lC (lI rfl) (lC (lI rfl) (lC (lI rfl) lN))
       ·exact aU (kR rfl) (aU (kR rfl) (aU (kR rfl) aM))
      case' neg =>
       have k14:(e == 14)=false:=by simpa using k14
       by_cases k15:(e == 15)=true
       case' pos =>
        refine Wq<|qW 7 9 rfl<|qM rfl<|Od rfl rfl (C1 (fr:=[]) rfl rfl (e1) fok49 (.own rfl rfl (.cons rfl (.pure rfl) .nil)) rfl rfl rfl (Cn _ _) (by decide) rfl)<|Nl<|Wb<|Wq<|qW 13 15 rfl<|qE rfl<|qA rfl<|Nl<|Wo rfl ‹_›<|Wq<|qW 28 30 rfl<|qE rfl<|qA rfl<|Nl<|Wo rfl ‹_›<|Wq<|qW 43 45 rfl<|qE rfl<|qA rfl<|Nl<|Wo rfl ‹_›<|Wq<|qW 58 60 rfl<|qE rfl<|qA rfl<|Nl<|Wo rfl ‹_›<|Wq<|qW 74 76 rfl<|qE rfl<|qA rfl<|Nl<|Wo rfl ‹_›<|Wq<|qW 90 92 rfl<|qE rfl<|qA rfl<|Nl<|Wt rfl ‹_›<|qW 96 99 rfl<|qY rfl (bcX_any) fok39 rfl<|qF rfl ty26 rfl<|qS rfl ty23 (Sl rfl) rfl<|Nl ?_
        intro yJ KJ hJ
        refine W.renameJ [(0,0),(1,1),(2,2)] 3 (by decide) ?_ ?_ (hJ (((⟨bcM,[s0,s1,s2,s3,s4,s5],vl,ty,data⟩:Fr)),a1) (show FrY ((⟨bcM,[s0,s1,s2,s3,s4,s5],vl,ty,data⟩:Fr)) from .mk6 ⟨rfl,fun x hx=>by simp [bcM] at hx;omega⟩ ⟨rfl,sB⟩ ⟨bB,bl⟩))
        ·exact lC (lI rfl) (lC (lI rfl) (lC (lI rfl) lN))
        ·exact aU (kR rfl) (aU (kR rfl) (aU (kR rfl) aM))
       case' neg =>
        have k15:(e == 15)=false:=by simpa using k15
        by_cases k16:(e == 16)=true
        case' pos =>
         have m1:=next_any l a1 60 (by decide) (by decide) hl
         have m2:=next_any l (nextAt l a1) 1024 (by decide) (by decide) hl
         generalize nextV l a1 60=q at *
         generalize nextV l (nextAt l a1) 1024=q2 at *
         generalize nextAt l (nextAt l a1)=a3 at *
         generalize nextAt l a1=a2 at *
         obtain ⟨L,⟨LB,Ll⟩,hsp⟩:=spo_any data q q2 bB (by omega)
         refine Wq<|qW 7 9 rfl<|qM rfl<|Od rfl rfl (C1 (fr:=[]) rfl rfl (e1) fok49 (.own rfl rfl (.cons rfl (.pure rfl) .nil)) rfl rfl rfl (Cn _ _) (by decide) rfl)<|Nl<|Wb<|Wq<|qW 13 15 rfl<|qE rfl<|qA rfl<|Nl<|Wo rfl ‹_›<|Wq<|qW 28 30 rfl<|qE rfl<|qA rfl<|Nl<|Wo rfl ‹_›<|Wq<|qW 43 45 rfl<|qE rfl<|qA rfl<|Nl<|Wo rfl ‹_›<|Wq<|qW 58 60 rfl<|qE rfl<|qA rfl<|Nl<|Wo rfl ‹_›<|Wq<|qW 74 76 rfl<|qE rfl<|qA rfl<|Nl<|Wo rfl ‹_›<|Wq<|qW 90 92 rfl<|qE rfl<|qA rfl<|Nl<|Wo rfl ‹_›<|Wq<|qW 103 105 rfl<|qE rfl<|qA rfl<|Nl<|Wt rfl ‹_›<|Wd 109 118 (by decide) rfl mixed rfl<|qF rfl ty26 rfl<|qL rfl ty24 rfl<|qM rfl<|Od rfl rfl (C1 (fr:=[]) rfl rfl (m1) fok49 (.own rfl rfl (.cons rfl (.pure rfl) .nil)) rfl rfl rfl (Cn _ _) (by decide) rfl)<|qM rfl<|Od rfl rfl (C1 (fr:=[]) rfl rfl (m2) fok49 (.own rfl rfl (.cons rfl (.pure rfl) .nil)) rfl rfl rfl (Cn _ _) (by decide) rfl)<|qY rfl (hsp) fok32 rfl<|qF rfl ty26 rfl<|qS rfl ty24 (Sl rfl) rfl<|Nl ⟨by kernel_rfl,?_⟩
         intro yJ KJ hJ
         refine W.renameJ [(0,0),(1,1),(2,2)] 3 (by decide) ?_ ?_ (hJ (((⟨[d0,d1,d2,d3,d4,d5],[s0,s1,s2,s3,s4,s5],vl,ty,L⟩:Fr)),a3) (show FrY ((⟨[d0,d1,d2,d3,d4,d5],[s0,s1,s2,s3,s4,s5],vl,ty,L⟩:Fr)) from .mk6 ⟨rfl,dB⟩ ⟨rfl,sB⟩ ⟨LB,by omega⟩))
         ·exact lC (lI rfl) (lC (lI rfl) (lC (lI rfl) lN))
         ·exact aU (kR rfl) (aU (kR rfl) (aU (kR rfl) aM))
        case' neg =>
         have k16:(e == 16)=false:=by simpa using k16
         by_cases k17:(e == 17)=true
         case' pos =>
          obtain ⟨q,hq,hqb⟩:=nat_of (nextV_bd l a1 2 (by decide))
          have m1:=next_any l a1 2 (by decide) (by decide) hl
          rw [hq] at m1
          generalize nextAt l a1=a2 at *
          have hq1:(1500:Int) + (q:Int)=((1500 + q:Nat):Int):=by omega
          have hzr:zerosL (1500 + q) [.base (.int .u8 0)]=bytesC (List.replicate (1500 + q) 0):=zeros_bytes _
          have hzl:(List.replicate (1500 + q) (0:Int)).length=1500 + q:=List.length_replicate
          refine Wq<|qW 7 9 rfl<|qM rfl<|Od rfl rfl (C1 (fr:=[]) rfl rfl (e1) fok49 (.own rfl rfl (.cons rfl (.pure rfl) .nil)) rfl rfl rfl (Cn _ _) (by decide) rfl)<|Nl<|Wb<|Wq<|qW 13 15 rfl<|qE rfl<|qA rfl<|Nl<|Wo rfl ‹_›<|Wq<|qW 28 30 rfl<|qE rfl<|qA rfl<|Nl<|Wo rfl ‹_›<|Wq<|qW 43 45 rfl<|qE rfl<|qA rfl<|Nl<|Wo rfl ‹_›<|Wq<|qW 58 60 rfl<|qE rfl<|qA rfl<|Nl<|Wo rfl ‹_›<|Wq<|qW 74 76 rfl<|qE rfl<|qA rfl<|Nl<|Wo rfl ‹_›<|Wq<|qW 90 92 rfl<|qE rfl<|qA rfl<|Nl<|Wo rfl ‹_›<|Wq<|qW 103 105 rfl<|qE rfl<|qA rfl<|Nl<|Wo rfl ‹_›<|Wq<|qW 122 124 rfl<|qE rfl<|qA rfl<|Nl<|Wt rfl ‹_›<|qW 128 134 rfl<|qM rfl<|Od rfl rfl (C1 (fr:=[]) rfl rfl (m1) fok49 (.own rfl rfl (.cons rfl (.pure rfl) .nil)) rfl rfl rfl (Cn _ _) (by decide) rfl)<|qZ rfl (iW _ (by omega))<|Od rfl rfl (LO.makeSlice rfl rfl rfl rfl rfl ty24 ty5 (by decide) (by omega) (by simp;omega) (by simp;omega))<|qF rfl ty26 rfl<|qS rfl ty24 (Sl rfl) rfl<|Nl ?_
          rw [hzr]
          intro yJ KJ hJ
          refine Wv (q:=1) (j:=14) (r:=131) rfl rfl (by decide) rfl (bytes_tk hzl) (bytesC_pure _) (Sl rfl) ?_
          rw [show AV.isl (bytesC (List.replicate (1500 + q) 0)) (1500 + q)=AV.isl (bytesC (List.replicate (1500 + q) 0)) (List.replicate (1500 + q) (0:Int)).length from by rw [hzl]]
          refine W.renameJ [(0,0),(1,1),(2,2)] 3 (by decide) ?_ ?_ (hJ (((⟨[d0,d1,d2,d3,d4,d5],[s0,s1,s2,s3,s4,s5],vl,ty,List.replicate (1500 + q) 0⟩:Fr)),a2) (show FrY ((⟨[d0,d1,d2,d3,d4,d5],[s0,s1,s2,s3,s4,s5],vl,ty,List.replicate (1500 + q) 0⟩:Fr)) from .mk6 ⟨rfl,dB⟩ ⟨rfl,sB⟩ ⟨IsB.zeros _,by omega⟩))
          ·exact lC (lI rfl) (lC (lI rfl) (lC (lI rfl) lN))
          ·exact aU (kR rfl) (aU (kR rfl) (aU (kR rfl) aM))
         case' neg =>
          have k17:(e == 17)=false:=by simpa using k17
          by_cases k18:(e == 18)=true
          case' pos =>
           have m1:=next_any l a1 400 (by decide) (by decide) hl
           generalize nextV l a1 400=q at *
           generalize nextAt l a1=a2 at *
           refine Wq<|qW 7 9 rfl<|qM rfl<|Od rfl rfl (C1 (fr:=[]) rfl rfl (e1) fok49 (.own rfl rfl (.cons rfl (.pure rfl) .nil)) rfl rfl rfl (Cn _ _) (by decide) rfl)<|Nl<|Wb<|Wq<|qW 13 15 rfl<|qE rfl<|qA rfl<|Nl<|Wo rfl ‹_›<|Wq<|qW 28 30 rfl<|qE rfl<|qA rfl<|Nl<|Wo rfl ‹_›<|Wq<|qW 43 45 rfl<|qE rfl<|qA rfl<|Nl<|Wo rfl ‹_›<|Wq<|qW 58 60 rfl<|qE rfl<|qA rfl<|Nl<|Wo rfl ‹_›<|Wq<|qW 74 76 rfl<|qE rfl<|qA rfl<|Nl<|Wo rfl ‹_›<|Wq<|qW 90 92 rfl<|qE rfl<|qA rfl<|Nl<|Wo rfl ‹_›<|Wq<|qW 103 105 rfl<|qE rfl<|qA rfl<|Nl<|Wo rfl ‹_›<|Wq<|qW 122 124 rfl<|qE rfl<|qA rfl<|Nl<|Wo rfl ‹_›<|Wq<|qW 138 140 rfl<|qE rfl<|qA rfl<|Nl<|Wt rfl ‹_›<|qW 144 149 rfl<|qM rfl<|Od rfl rfl (C1 (fr:=[]) rfl rfl (m1) fok49 (.own rfl rfl (.cons rfl (.pure rfl) .nil)) rfl rfl rfl (Cn _ _) (by decide) rfl)<|qY rfl (mac_any q) fok130 rfl<|qF rfl ty26 rfl<|qS rfl ty23 (Sl rfl) rfl<|Nl ?_
           intro yJ KJ hJ
           refine W.renameJ [(0,0),(1,1),(2,2)] 3 (by decide) ?_ ?_ (hJ (((⟨macF q,[s0,s1,s2,s3,s4,s5],vl,ty,data⟩:Fr)),a2) (show FrY ((⟨macF q,[s0,s1,s2,s3,s4,s5],vl,ty,data⟩:Fr)) from .mk6 ⟨rfl,macF_isB q⟩ ⟨rfl,sB⟩ ⟨bB,bl⟩))
           ·exact lC (lI rfl) (lC (lI rfl) (lC (lI rfl) lN))
           ·exact aU (kR rfl) (aU (kR rfl) (aU (kR rfl) aM))
          case' neg =>
           have k18:(e == 18)=false:=by simpa using k18
           refine Wq<|qW 7 9 rfl<|qM rfl<|Od rfl rfl (C1 (fr:=[]) rfl rfl (e1) fok49 (.own rfl rfl (.cons rfl (.pure rfl) .nil)) rfl rfl rfl (Cn _ _) (by decide) rfl)<|Nl<|Wb<|Wq<|qW 13 15 rfl<|qE rfl<|qA rfl<|Nl<|Wo rfl ‹_›<|Wq<|qW 28 30 rfl<|qE rfl<|qA rfl<|Nl<|Wo rfl ‹_›<|Wq<|qW 43 45 rfl<|qE rfl<|qA rfl<|Nl<|Wo rfl ‹_›<|Wq<|qW 58 60 rfl<|qE rfl<|qA rfl<|Nl<|Wo rfl ‹_›<|Wq<|qW 74 76 rfl<|qE rfl<|qA rfl<|Nl<|Wo rfl ‹_›<|Wq<|qW 90 92 rfl<|qE rfl<|qA rfl<|Nl<|Wo rfl ‹_›<|Wq<|qW 103 105 rfl<|qE rfl<|qA rfl<|Nl<|Wo rfl ‹_›<|Wq<|qW 122 124 rfl<|qE rfl<|qA rfl<|Nl<|Wo rfl ‹_›<|Wq<|qW 138 140 rfl<|qE rfl<|qA rfl<|Nl<|Wo rfl ‹_›<|Wu ?_
           intro yJ KJ hJ
           refine W.renameJ [(0,0),(1,1),(2,2)] 3 (by decide) ?_ ?_ (hJ (((⟨[d0,d1,d2,d3,d4,d5],[s0,s1,s2,s3,s4,s5],vl,ty,data⟩:Fr)),a1) (show FrY ((⟨[d0,d1,d2,d3,d4,d5],[s0,s1,s2,s3,s4,s5],vl,ty,data⟩:Fr)) from .mk6 ⟨rfl,dB⟩ ⟨rfl,sB⟩ ⟨bB,bl⟩))
           ·exact lC (lI rfl) (lC (lI rfl) (lC (lI rfl) lN))
           ·exact aU (kR rfl) (aU (kR rfl) (aU (kR rfl) aM))
 have g6:=hIJ.ok.d6
 have t6:=hIJ.ok.s6
 obtain ⟨gd,gs,gv,gt,gx⟩:=g
 dsimp only at g6 t6
 obtain ⟨w0,w1,w2,w3,w4,w5,rfl⟩:=six_of g6
 obtain ⟨y0,y1,y2,y3,y4,y5,rfl⟩:=six_of t6
 refine Wq<|qW 153 155 rfl<|qG rfl ty26 rfl (Tl rfl)<|qS rfl ty26 (Sl rfl) rfl<|Nl<|Wz ⟨.inl rfl,_,up mt 0 (some (deckC l b)),(Rc (Ra0 rfl rfl ty26 rfl (Tl rfl)) Rv),(aU rfl aM),?_⟩
 exact ⟨_,b,hIJ,rfl,rfl⟩
set_option maxHeartbeats 8000000 in
theorem frame_any (l:List Int) (at_:Nat) (r:Rl) (rs:List Rl) (hr:RlOk r) (hrs:∀ x,x∈rs→RlOk x) (hn1:1≤rs.length) (hn2:rs.length≤1000) (hl:l.length≤9223372036854775807) :
 ∃ v H',AFn Tryz.prog 51 1 [.own 0 0,.agg (ruleC r),.isl (rulesC rs) rs.length] (up mt 0 (some (deckC l at_))) v H' ∧
  ∃ (g:Fr) (at':Nat),FrY g∧v=.agg (frC g)∧H'=up mt 0 (some (deckC l at')):=by
 refine AFn.ex Tryz.func51 rfl rfl (Nat.le_of_ble_eq_true rfl) ?_
 have hrn:=hr.nm
 have hm0:=hr.macs _ (List.getElem_mem (show 0 < r.macs.length by omega))
 have tR:=macs_tk (fun m hm=>(hr.macs m hm).1) (show 0 < r.macs.length by omega)
 generalize r.macs[0]'(by omega)=m at hm0 tR
 obtain ⟨m6,mB⟩:=hm0
 obtain ⟨m0,m1,m2,m3,m4,m5,rfl⟩:=six_of m6
 obtain ⟨j,hj,hjb⟩:=nat_of (nextV_bd l at_ (rs.length:Int) (by omega))
 have n1:=next_any l at_ (rs.length:Int) (by omega) (by omega) hl
 rw [hj] at n1
 generalize nextAt l at_=a1 at *
 have hjl:j < rs.length:=by omega
 have tj:=rules_tk hjl
 have hto:=hrs _ (List.getElem_mem hjl)
 generalize rs[j]=to at *
 have htn:=hto.nm
 obtain ⟨i,hi,hib⟩:=nat_of (nextV_bd l a1 (to.macs.length:Int) (by omega))
 have n2:=next_any l a1 (to.macs.length:Int) (by omega) (by omega) hl
 rw [hi] at n2
 generalize nextAt l a1=a2 at *
 have hil:i < to.macs.length:=by omega
 have ti:=macs_tk (fun m hm=>(hto.macs m hm).1) hil
 have hmi:=hto.macs _ (List.getElem_mem hil)
 generalize to.macs[i]=w at hmi ti
 obtain ⟨w6,wB⟩:=hmi
 obtain ⟨w0,w1,w2,w3,w4,w5,rfl⟩:=six_of w6
 clear hj hi
 have n4:=next_any l a2 2 (by decide) (by decide) hl
 generalize nextV l a2 2=e4 at *
 generalize nextAt l a2=a3 at *
 refine Wq<|qW 1 3 rfl<|qC rfl<|qB rfl ty26<|Nl<|Wq<|qW 7 14 rfl<|qF rfl ty39 rfl<|qL rfl ty36 rfl<|qJ rfl rfl ty36 ty23 (by simp;omega)<|Od rfl rfl (Lg rfl rfl ty23 rfl tR)<|Od rfl rfl (Bs rfl ty26 (.cons rfl rfl rfl rfl (Sl rfl) (.cons rfl rfl rfl rfl (Sl rfl) .nil)))<|qB rfl ty26<|qS rfl ty26 (Sl rfl) rfl<|Nl<|W.nilc (q:=12) (j:=14) rfl rfl (Sl rfl)<|Wq<|qW 18 27 rfl<|qM rfl<|qM rfl<|qM rfl<|qH rfl ty30<|Od rfl rfl (C1 (fr:=[]) rfl rfl (n1) fok49 (.own rfl rfl (.cons rfl (.pure rfl) .nil)) rfl rfl rfl (Cn _ _) (by decide) rfl)<|qJ rfl rfl ty30 ty39 (by omega)<|Od rfl rfl (Lg rfl rfl ty39 rfl tj)<|qB rfl ty39<|qS rfl ty39 (Sl rfl) rfl<|Nl<|Wq<|Wd 31 42 (by decide) rfl mixed rfl<|qF rfl ty39 rfl<|qL rfl ty36 rfl<|qM rfl<|qF rfl ty39 rfl<|qL rfl ty36 rfl<|qH rfl ty36<|Od rfl rfl (C1 (fr:=[]) rfl rfl (n2) fok49 (.own rfl rfl (.cons rfl (.pure rfl) .nil)) rfl rfl rfl (Cn _ _) (by decide) rfl)<|qJ rfl rfl ty36 ty23 (by omega)<|Od rfl rfl (Lg rfl rfl ty23 rfl ti)<|qF rfl ty26 rfl<|qS rfl ty23 (Sl rfl) rfl<|Nl ⟨by kernel_rfl,(Wq<|W.joinK (α:=List Int × Nat) 5 (fun x=>[(0,.own 0 0),(4,.own 1 0),(6,.own 2 0),(7,.own 3 0),(8,.own 4 0)]) (fun x=>up (up (up (up (up mt 0 (some (deckC l x.2))) 1 (some (ruleC r))) 2 (some ([.base (.int .u8 0),.base (.int .u8 0),.base (.int .u8 0),.base (.int .u8 0),.base (.int .u8 0),.base (.int .u8 0),.base (.int .u8 0),.base (.int .u8 0),.base (.int .u8 0),.base (.int .u8 0),.base (.int .u8 0),.base (.int .u8 0),.base (.int .i64 0),.base (.int .i64 0),.nils]))) 3 (some (frC ⟨[w0,w1,w2,w3,w4,w5],x.1,0,2048,[]⟩))) 4 (some (ruleC to))) (fun x=>x.1.length=6∧IsB x.1) .nil ?_ ?_)⟩
 rotate_left
 rintro ⟨ss,b⟩ hIJ
 try (dsimp only at hIJ)
 try dsimp only [joinT,baseT,List.cons_append,List.nil_append]
 rotate_right
 ·
  by_cases h1:1 < r.macs.length
  case' neg =>
   have k1:decide ((r.macs.length:Int) > 1)=false:=decide_eq_false (by omega)
   refine Wq<|qW 46 55 rfl<|qF rfl ty39 rfl<|qL rfl ty36 rfl<|qH rfl ty36<|qGt rfl<|qM rfl<|qD rfl ‹_› rfl<|qD rfl ‹_› rfl<|qD rfl ‹_› rfl<|qP rfl ‹_› rfl<|Nl<|Wo rfl rfl<|Wu ?_
   intro yJ KJ hJ
   refine W.renameJ [(0,0),(1,1),(2,2),(3,12),(4,25)] 5 (by decide) ?_ ?_ (hJ ([m0,m1,m2,m3,m4,m5],a2) (show [m0,m1,m2,m3,m4,m5].length=6∧IsB [m0,m1,m2,m3,m4,m5] from ⟨rfl,mB⟩))
   ·exact lC (lI rfl) (lC (lI rfl) (lC (lI rfl) (lC (lI rfl) (lC (lI rfl) lN))))
   ·exact aU (kR rfl) (aU (kR rfl) (aU (kR rfl) (aU (kR rfl) (aU (kR rfl) aM))))
  case' pos =>
   have k1:decide ((r.macs.length:Int) > 1)=true:=decide_eq_true (by omega)
   cases k2:(e4 == 1)
   ·
    refine Wq<|qW 46 55 rfl<|qF rfl ty39 rfl<|qL rfl ty36 rfl<|qH rfl ty36<|qGt rfl<|qM rfl<|gM rfl ‹_›<|qU rfl ‹_› rfl (C1 (fr:=[]) rfl rfl (n4) fok49 (.own rfl rfl (.cons rfl (.pure rfl) .nil)) rfl rfl rfl (Cn _ _) (by decide) rfl)<|gE rfl ‹_›<|qT rfl ‹_› rfl<|Nl<|Wo rfl ‹_›<|Wu ?_
    intro yJ KJ hJ
    refine W.renameJ [(0,0),(1,1),(2,2),(3,12),(4,25)] 5 (by decide) ?_ ?_ (hJ ([m0,m1,m2,m3,m4,m5],a3) (show [m0,m1,m2,m3,m4,m5].length=6∧IsB [m0,m1,m2,m3,m4,m5] from ⟨rfl,mB⟩))
    ·exact lC (lI rfl) (lC (lI rfl) (lC (lI rfl) (lC (lI rfl) (lC (lI rfl) lN))))
    ·exact aU (kR rfl) (aU (kR rfl) (aU (kR rfl) (aU (kR rfl) (aU (kR rfl) aM))))
   ·
    have t1:=macs_tk (fun m hm=>(hr.macs m hm).1) h1
    have hm1:=hr.macs _ (List.getElem_mem h1)
    generalize r.macs[1]=z at hm1 t1
    obtain ⟨z6,zB⟩:=hm1
    obtain ⟨z0,z1,z2,z3,z4,z5,rfl⟩:=six_of z6
    refine Wq<|qW 46 55 rfl<|qF rfl ty39 rfl<|qL rfl ty36 rfl<|qH rfl ty36<|qGt rfl<|qM rfl<|gM rfl ‹_›<|qU rfl ‹_› rfl (C1 (fr:=[]) rfl rfl (n4) fok49 (.own rfl rfl (.cons rfl (.pure rfl) .nil)) rfl rfl rfl (Cn _ _) (by decide) rfl)<|gE rfl ‹_›<|qT rfl ‹_› rfl<|Nl<|Wt rfl ‹_›<|qW 59 65 rfl<|qF rfl ty39 rfl<|qL rfl ty36 rfl<|qJ rfl rfl ty36 ty23 (by omega)<|Od rfl rfl (Lg rfl rfl ty23 rfl t1)<|qF rfl ty26 rfl<|qS rfl ty23 (Sl rfl) rfl<|Nl ?_
    intro yJ KJ hJ
    refine W.renameJ [(0,0),(1,1),(2,2),(3,12),(4,25)] 5 (by decide) ?_ ?_ (hJ ([z0,z1,z2,z3,z4,z5],a3) (show [z0,z1,z2,z3,z4,z5].length=6∧IsB [z0,z1,z2,z3,z4,z5] from ⟨rfl,zB⟩))
    ·exact lC (lI rfl) (lC (lI rfl) (lC (lI rfl) (lC (lI rfl) (lC (lI rfl) lN))))
    ·exact aU (kR rfl) (aU (kR rfl) (aU (kR rfl) (aU (kR rfl) (aU (kR rfl) aM))))
 obtain ⟨s6,sB⟩:=hIJ
 obtain ⟨s0,s1,s2,s3,s4,s5,rfl⟩:=six_of s6
 have n5:=next_any l b 5 (by decide) (by decide) hl
 generalize nextV l b 5=e at *
 generalize nextAt l b=b1 at *
 have hf0:FrG ⟨[w0,w1,w2,w3,w4,w5],[s0,s1,s2,s3,s4,s5],0,2048,[]⟩:=.mk6 ⟨rfl,wB⟩ ⟨rfl,sB⟩ ⟨fun x hx=>by simp at hx,by simp⟩
 refine Wq<|W.joinK (α:=Fr × Nat) 3 (fun x=>[(0,.own 0 0),(6,.own 1 0),(7,.own 2 0)]) (fun x=>up (up (up mt 0 (some (deckC l x.2))) 1 (some ([.base (.int .u8 0),.base (.int .u8 0),.base (.int .u8 0),.base (.int .u8 0),.base (.int .u8 0),.base (.int .u8 0),.base (.int .u8 0),.base (.int .u8 0),.base (.int .u8 0),.base (.int .u8 0),.base (.int .u8 0),.base (.int .u8 0),.base (.int .i64 0),.base (.int .i64 0),.nils]))) 2 (some (frC x.1))) (fun x=>FrG x.1) .nil ?_ ?_
 rotate_left
 rintro ⟨g,c⟩ hIK
 try (dsimp only at hIK)
 try dsimp only [joinT,baseT,List.cons_append,List.nil_append]
 rotate_right
 ·
  cases k0:(e == 0)
  case' false =>
   cases k1:(e == 1)
   case' false =>
    cases k2:(e == 2)
    case' false =>
     cases k3:(e == 3)
     case' false =>
      have n1:=next_any l b1 9 (by decide) (by decide) hl
      have c1b:=nextV_bd l b1 9 (by decide)
      generalize nextV l b1 9=x1 at *
      generalize nextAt l b1=c1 at *
      have n4:=next_any l c1 9 (by decide) (by decide) hl
      have c4b:=nextV_bd l c1 9 (by decide)
      generalize nextV l c1 9=x2 at *
      generalize nextAt l c1=c2 at *
      obtain ⟨q,hq,hqb⟩:=nat_of (nextV_bd l c2 3 (by decide))
      have n8:=next_any l c2 3 (by decide) (by decide) hl
      rw [hq] at n8
      generalize nextAt l c2=c3 at *
      have hsl:([.base (.int .i64 6),.base (.int .i64 58),.base (.int .i64 17)]:List AV)[0 + q * 1]?=some (.base (.int .i64 (if q=0 then 6 else if q=1 then 58 else 17))):=by
       match q,hqb with
       | 0,_=>rfl
       | 1,_=>rfl
       | 2,_=>rfl
       | k + 3,h=>omega
      generalize (if q=0 then (6:Int) else if q=1 then 58 else 17)=pr at *
      obtain ⟨_,_,hby,L,c4,⟨LB,Ll⟩,rfl,rfl⟩:=dbytes_any l c3 20 (by decide) hl
      have u1:=(sixA_ok (n:=x1) (by omega) (by omega)).2
      have u2:=(sixA_ok (n:=x2) (by omega) (by omega)).2
      have hre:=renc_any ⟨sixA x1,sixA x2,pr,64,L⟩ u1.1 u1.2 u2.1 u2.2 LB
      obtain ⟨oB,oL⟩:=encL2_ok ⟨sixA x1,sixA x2,pr,64,L⟩ LB
      dsimp only at oL
      unfold ecV at hre
      generalize encL2 ⟨sixA x1,sixA x2,pr,64,L⟩=B at *
      generalize encE ⟨sixA x1,sixA x2,pr,64,L⟩=be at *
      refine Wq<|qW 69 71 rfl<|qM rfl<|Od rfl rfl (C1 (fr:=[]) rfl rfl (n5) fok49 (.own rfl rfl (.cons rfl (.pure rfl) .nil)) rfl rfl rfl (Cn _ _) (by decide) rfl)<|Nl<|Wb<|Wq<|qW 75 77 rfl<|qE rfl<|qA rfl<|Nl<|Wo rfl ‹_›<|Wq<|Wq<|qW 104 106 rfl<|qE rfl<|qA rfl<|Nl<|Wo rfl ‹_›<|qW 110 112 rfl<|qE rfl<|qA rfl<|Nl<|Wo rfl ‹_›<|Wq<|qW 124 126 rfl<|qE rfl<|qA rfl<|Nl<|Wo rfl ‹_›<|Wq<|qW 138 140 rfl<|qF rfl ty26 rfl<|qS rfl ty3 (Sl rfl) rfl<|Nl<|Wd 144 164 (by decide) rfl mixed rfl<|qM rfl<|Od rfl rfl (C1 (fr:=[]) rfl rfl (n1) fok49 (.own rfl rfl (.cons rfl (.pure rfl) .nil)) rfl rfl rfl (Cn _ _) (by decide) rfl)<|qY rfl (sixM_any x1 (by omega) (by omega)) fok100 rfl<|qM rfl<|Od rfl rfl (C1 (fr:=[]) rfl rfl (n4) fok49 (.own rfl rfl (.cons rfl (.pure rfl) .nil)) rfl rfl rfl (Cn _ _) (by decide) rfl)<|qY rfl (sixM_any x2 (by omega) (by omega)) fok100 rfl<|Od rfl rfl (LO.buildSlice rfl ty27 ty3 (by decide) (by decide) (.cons rfl rfl rfl rfl (Sl rfl) (.cons rfl rfl rfl rfl (Sl rfl) (.cons rfl rfl rfl rfl (Sl rfl) .nil))))<|qM rfl<|Od rfl rfl (C1 (fr:=[]) rfl rfl (n8) fok49 (.own rfl rfl (.cons rfl (.pure rfl) .nil)) rfl rfl rfl (Cn _ _) (by decide) rfl)<|Od rfl rfl (Ia rfl rfl rfl rfl ty27 ty3 (by omega))<|Od rfl rfl (Ld rfl rfl rfl hsl ty3 rfl)<|qM rfl<|Od rfl rfl (C1 (fr:=[]) rfl rfl (hby) fok97 (.own rfl rfl (.cons rfl (.pure rfl) .nil)) rfl rfl rfl (Cn _ _) (by decide) rfl)<|Od rfl rfl (Bs rfl ty83 (.cons rfl rfl rfl rfl (Sl rfl) (.cons rfl rfl rfl rfl (Sl rfl) (.cons rfl rfl rfl rfl (Sl rfl) (.cons rfl rfl rfl rfl (Sl rfl) (.cons rfl rfl rfl rfl (Sl rfl) .nil))))))<|qY rfl (hre) fok43 rfl<|qM rfl<|qX rfl<|qX rfl<|qF rfl ty26 rfl<|qS rfl ty24 (Sl rfl) rfl<|Nl ⟨by kernel_rfl,?_⟩
      intro yJ KJ hJ
      refine W.renameJ [(0,0),(1,2),(2,3)] 3 (by decide) ?_ ?_ (hJ (((⟨[w0,w1,w2,w3,w4,w5],[s0,s1,s2,s3,s4,s5],0,34525,B⟩:Fr)),c4) (show FrG ((⟨[w0,w1,w2,w3,w4,w5],[s0,s1,s2,s3,s4,s5],0,34525,B⟩:Fr)) from .mk6 ⟨rfl,wB⟩ ⟨rfl,sB⟩ ⟨oB,by omega⟩))
      ·exact lC (lI rfl) (lC (lI rfl) (lC (lI rfl) lN))
      ·exact aU (kR rfl) (aU (kR rfl) (aU (kR rfl) aM))
     case' true =>
      obtain ⟨_,_,hM,g2,c2,hg2,rfl,rfl⟩:=nbM_any l b1 r to _ hr hto hf0 hl
      refine Wq<|qW 69 71 rfl<|qM rfl<|Od rfl rfl (C1 (fr:=[]) rfl rfl (n5) fok49 (.own rfl rfl (.cons rfl (.pure rfl) .nil)) rfl rfl rfl (Cn _ _) (by decide) rfl)<|Nl<|Wb<|Wq<|qW 75 77 rfl<|qE rfl<|qA rfl<|Nl<|Wo rfl ‹_›<|Wq<|Wq<|qW 104 106 rfl<|qE rfl<|qA rfl<|Nl<|Wo rfl ‹_›<|qW 110 112 rfl<|qE rfl<|qA rfl<|Nl<|Wo rfl ‹_›<|Wq<|qW 124 126 rfl<|qE rfl<|qA rfl<|Nl<|Wt rfl ‹_›<|qW 130 134 rfl<|qM rfl<|qG rfl ty39 rfl (Tl rfl)<|qG rfl ty39 rfl (Tl rfl)<|Od rfl rfl (LO.call2 (fr:=[]) (q0:=0) (q1:=3) rfl rfl hM fok99 (.own 0 rfl rfl (.cons rfl (.pure rfl) (.cons rfl (.pure rfl) (.own 1 rfl rfl .nil)))) (by decide) (by decide) (by decide) rfl rfl rfl (fr_pure _) rfl (fr_pure _) (Cn _ _) (Cn _ _) rfl)<|Nl ?_
      intro yJ KJ hJ
      refine W.renameJ [(0,0),(1,2),(2,3)] 3 (by decide) ?_ ?_ (hJ (g2,c2) (show FrG g2 from hg2))
      ·exact lC (lI rfl) (lC (lI rfl) (lC (lI rfl) lN))
      ·exact aU (kP rfl (fr_pure _)) (aU (kR rfl) (aU (kR rfl) aM))
    case' true =>
     obtain ⟨_,_,hM,g2,c2,hg2,rfl,rfl⟩:=arpM_any l b1 r to _ hr hto hf0 hl
     refine Wq<|qW 69 71 rfl<|qM rfl<|Od rfl rfl (C1 (fr:=[]) rfl rfl (n5) fok49 (.own rfl rfl (.cons rfl (.pure rfl) .nil)) rfl rfl rfl (Cn _ _) (by decide) rfl)<|Nl<|Wb<|Wq<|qW 75 77 rfl<|qE rfl<|qA rfl<|Nl<|Wo rfl ‹_›<|Wq<|Wq<|qW 104 106 rfl<|qE rfl<|qA rfl<|Nl<|Wo rfl ‹_›<|qW 110 112 rfl<|qE rfl<|qA rfl<|Nl<|Wt rfl ‹_›<|qW 116 120 rfl<|qM rfl<|qG rfl ty39 rfl (Tl rfl)<|qG rfl ty39 rfl (Tl rfl)<|Od rfl rfl (LO.call2 (fr:=[]) (q0:=0) (q1:=3) rfl rfl hM fok98 (.own 0 rfl rfl (.cons rfl (.pure rfl) (.cons rfl (.pure rfl) (.own 1 rfl rfl .nil)))) (by decide) (by decide) (by decide) rfl rfl rfl (fr_pure _) rfl (fr_pure _) (Cn _ _) (Cn _ _) rfl)<|Nl ?_
     intro yJ KJ hJ
     refine W.renameJ [(0,0),(1,2),(2,3)] 3 (by decide) ?_ ?_ (hJ (g2,c2) (show FrG g2 from hg2))
     ·exact lC (lI rfl) (lC (lI rfl) (lC (lI rfl) lN))
     ·exact aU (kP rfl (fr_pure _)) (aU (kR rfl) (aU (kR rfl) aM))
   case' true =>
    obtain ⟨_,_,hM,g2,c2,hg2,rfl,rfl⟩:=arpM_any l b1 r to _ hr hto hf0 hl
    refine Wq<|qW 69 71 rfl<|qM rfl<|Od rfl rfl (C1 (fr:=[]) rfl rfl (n5) fok49 (.own rfl rfl (.cons rfl (.pure rfl) .nil)) rfl rfl rfl (Cn _ _) (by decide) rfl)<|Nl<|Wb<|Wq<|qW 75 77 rfl<|qE rfl<|qA rfl<|Nl<|Wo rfl ‹_›<|Wq<|Wq<|qW 104 106 rfl<|qE rfl<|qA rfl<|Nl<|Wt rfl ‹_›<|Wu<|Wt rfl ‹_›<|qW 116 120 rfl<|qM rfl<|qG rfl ty39 rfl (Tl rfl)<|qG rfl ty39 rfl (Tl rfl)<|Od rfl rfl (LO.call2 (fr:=[]) (q0:=0) (q1:=3) rfl rfl hM fok98 (.own 0 rfl rfl (.cons rfl (.pure rfl) (.cons rfl (.pure rfl) (.own 1 rfl rfl .nil)))) (by decide) (by decide) (by decide) rfl rfl rfl (fr_pure _) rfl (fr_pure _) (Cn _ _) (Cn _ _) rfl)<|Nl ?_
    intro yJ KJ hJ
    refine W.renameJ [(0,0),(1,2),(2,3)] 3 (by decide) ?_ ?_ (hJ (g2,c2) (show FrG g2 from hg2))
    ·exact lC (lI rfl) (lC (lI rfl) (lC (lI rfl) lN))
    ·exact aU (kP rfl (fr_pure _)) (aU (kR rfl) (aU (kR rfl) aM))
  case' true =>
   have n1:=next_any l b1 9 (by decide) (by decide) hl
   have c1b:=nextV_bd l b1 9 (by decide)
   generalize nextV l b1 9=x1 at *
   generalize nextAt l b1=c1 at *
   obtain ⟨_,_,h4,x2,c2,hx2,rfl,rfl⟩:=dfour_any l c1 hl
   obtain ⟨q,hq,hqb⟩:=nat_of (nextV_bd l c2 3 (by decide))
   have n8:=next_any l c2 3 (by decide) (by decide) hl
   rw [hq] at n8
   generalize nextAt l c2=c3 at *
   have hsl:([.base (.int .i64 1),.base (.int .i64 6),.base (.int .i64 17)]:List AV)[0 + q * 1]?=some (.base (.int .i64 (if q=0 then 1 else if q=1 then 6 else 17))):=by
    match q,hqb with
    | 0,_=>rfl
    | 1,_=>rfl
    | 2,_=>rfl
    | k + 3,h=>omega
   generalize (if q=0 then (1:Int) else if q=1 then 6 else 17)=pr at *
   obtain ⟨_,_,hby,L,c4,⟨LB,Ll⟩,rfl,rfl⟩:=dbytes_any l c3 20 (by decide) hl
   have u1:=(fourA_ok (n:=x1) (by omega) (by omega)).2
   have hre:=renc_any ⟨fourA x1,x2,pr,64,L⟩ u1.1 u1.2 hx2.2.1 hx2.2.2 LB
   obtain ⟨oB,oL⟩:=encL2_ok ⟨fourA x1,x2,pr,64,L⟩ LB
   dsimp only at oL
   unfold ecV at hre
   generalize encL2 ⟨fourA x1,x2,pr,64,L⟩=B at *
   generalize encE ⟨fourA x1,x2,pr,64,L⟩=be at *
   refine Wq<|qW 69 71 rfl<|qM rfl<|Od rfl rfl (C1 (fr:=[]) rfl rfl (n5) fok49 (.own rfl rfl (.cons rfl (.pure rfl) .nil)) rfl rfl rfl (Cn _ _) (by decide) rfl)<|Nl<|Wb<|Wq<|qW 75 77 rfl<|qE rfl<|qA rfl<|Nl<|Wt rfl ‹_›<|Wd 81 100 (by decide) rfl mixed rfl<|qM rfl<|Od rfl rfl (C1 (fr:=[]) rfl rfl (n1) fok49 (.own rfl rfl (.cons rfl (.pure rfl) .nil)) rfl rfl rfl (Cn _ _) (by decide) rfl)<|qY rfl (fourM_any x1 (by omega) (by omega)) fok95 rfl<|qM rfl<|Od rfl rfl (C1 (fr:=[]) rfl rfl (h4) fok96 (.own rfl rfl .nil) rfl rfl rfl (Cn _ _) (by decide) rfl)<|Od rfl rfl (LO.buildSlice rfl ty27 ty3 (by decide) (by decide) (.cons rfl rfl rfl rfl (Sl rfl) (.cons rfl rfl rfl rfl (Sl rfl) (.cons rfl rfl rfl rfl (Sl rfl) .nil))))<|qM rfl<|Od rfl rfl (C1 (fr:=[]) rfl rfl (n8) fok49 (.own rfl rfl (.cons rfl (.pure rfl) .nil)) rfl rfl rfl (Cn _ _) (by decide) rfl)<|Od rfl rfl (Ia rfl rfl rfl rfl ty27 ty3 (by omega))<|Od rfl rfl (Ld rfl rfl rfl hsl ty3 rfl)<|qM rfl<|Od rfl rfl (C1 (fr:=[]) rfl rfl (hby) fok97 (.own rfl rfl (.cons rfl (.pure rfl) .nil)) rfl rfl rfl (Cn _ _) (by decide) rfl)<|Od rfl rfl (Bs rfl ty83 (.cons rfl rfl rfl rfl (Sl rfl) (.cons rfl rfl rfl rfl (Sl rfl) (.cons rfl rfl rfl rfl (Sl rfl) (.cons rfl rfl rfl rfl (Sl rfl) (.cons rfl rfl rfl rfl (Sl rfl) .nil))))))<|qY rfl (hre) fok43 rfl<|qM rfl<|qX rfl<|qX rfl<|qF rfl ty26 rfl<|qS rfl ty24 (Sl rfl) rfl<|Nl ⟨by kernel_rfl,?_⟩
   intro yJ KJ hJ
   refine W.renameJ [(0,0),(1,2),(2,3)] 3 (by decide) ?_ ?_ (hJ (((⟨[w0,w1,w2,w3,w4,w5],[s0,s1,s2,s3,s4,s5],0,2048,B⟩:Fr)),c4) (show FrG ((⟨[w0,w1,w2,w3,w4,w5],[s0,s1,s2,s3,s4,s5],0,2048,B⟩:Fr)) from .mk6 ⟨rfl,wB⟩ ⟨rfl,sB⟩ ⟨oB,by omega⟩))
   ·exact lC (lI rfl) (lC (lI rfl) (lC (lI rfl) lN))
   ·exact aU (kR rfl) (aU (kR rfl) (aU (kR rfl) aM))
 have g6:=hIK.ok.d6
 have t6:=hIK.ok.s6
 obtain ⟨_,_,hodd,g2,c2,hg2,rfl,rfl⟩:=oddM_any l c g hIK hl
 obtain ⟨gd,gs,gv,gt,gx⟩:=g
 dsimp only at g6 t6
 obtain ⟨u0,u1,u2,u3,u4,u5,rfl⟩:=six_of g6
 obtain ⟨y0,y1,y2,y3,y4,y5,rfl⟩:=six_of t6
 have p6:=hg2.ok.d6
 have q6:=hg2.ok.s6
 obtain ⟨pd,ps,pv,pt,px⟩:=g2
 dsimp only at p6 q6
 obtain ⟨p0,p1,p2,p3,p4,p5,rfl⟩:=six_of p6
 obtain ⟨q0,q1,q2,q3,q4,q5,rfl⟩:=six_of q6
 refine Wq<|qW 168 172 rfl<|qM rfl<|qG rfl ty26 rfl (Tl rfl)<|Od rfl rfl (C1 (fr:=[]) rfl rfl (hodd) fok101 (.own rfl rfl (.cons rfl (.pure rfl) .nil)) rfl rfl rfl (Cn _ _) (by decide) rfl)<|qS rfl ty26 (Sl rfl) rfl<|Nl<|Wz ⟨.inl rfl,_,up mt 0 (some (deckC l c2)),(Rc (Ra0 rfl rfl ty26 rfl (Tl rfl)) Rv),(aU rfl aM),?_⟩
 exact ⟨_,c2,hg2,rfl,rfl⟩
theorem DbFine.rok {l:List Int} {d:Db} (h:DbFine l d) (g:Int→Int) (rate burst:Int):∀ r,r∈(allP d).map (ruleOf g rate burst)→RlOk r:=fun r hr=>by
 obtain ⟨p,hp,rfl⟩:=List.mem_map.1 hr
 obtain ⟨i,hi,rfl⟩:=List.getElem_of_mem hp
 have hl:=h.len
 have hg:=h.good i hi
 have ho:=hg.ok (by omega) (by omega)
 obtain ⟨e1,e2⟩:=v4_ok hg (by omega) (by omega)
 generalize (allP d)[i]=p at *
 have h1:=ad1_len p.v4
 have h2:=ad1_len p.v6
 have hnm:=ho.nm
 refine ⟨⟨hnm.1,by dsimp only [ruleOf];omega⟩,fun m hm=>⟨(ho.macs m hm).1,(ho.macs m hm).2.1⟩,by dsimp only [ruleOf];omega,fun a ha=>?_,by dsimp only [ruleOf];omega,fun a ha=>?_⟩
 ·dsimp only [ruleOf] at ha
  unfold ad1 at ha
  split at ha
  ·simp at ha
  ·simp at ha;rw [ha];exact ⟨e1,e2⟩
 ·dsimp only [ruleOf] at ha
  unfold ad1 at ha
  split at ha
  ·simp at ha
  ·rename_i hz
   simp at ha
   rw [ha]
   rcases hg.a with ⟨_,e⟩|⟨_,e⟩|⟨_,e⟩
   ·rw [e] at hz;exact absurd rfl hz
   ·rw [e];exact sixA_ok (by omega) (by omega)
   ·rw [e];exact sixA_ok (by omega) (by omega)
theorem andNot_even:∀ x:Fin 256,(bitV .and .u8 (bitV .andNot .u8 (x.val:Int) 1) 1 == 1)=false:=by decide +kernel
theorem even_grp {x:Int} (h:0≤x∧x≤255) (r:List Int):grpE (bitV .andNot .u8 x 1::r)=false:=by
 have:=andNot_even ⟨x.toNat,by omega⟩
 have e:((x.toNat:Nat):Int)=x:=by omega
 dsimp only at this
 rw [e] at this
 exact this
theorem grp_same:∀ x:Fin 256,(bitV .and .u8 (x.val:Int) 1 == 1)=((x.val:Int) % 2 == 1):=by decide +kernel
theorem grp_eq {x:Int} (h:0≤x∧x≤255) (r:List Int):grpM (x::r)=grpE (x::r):=by
 have:=grp_same ⟨x.toNat,by omega⟩
 have e:((x.toNat:Nat):Int)=x:=by omega
 dsimp only at this
 rw [e] at this
 exact this.symm
theorem cloneM_any (b:List (List Int)) (h6:∀ m,m∈b→m.length=6) (h:0 < b.length) (hl:b.length≤1000):AFn Tryz.prog 138 0 [.isl (macsC b) b.length] mt (.isl (macsC b) b.length) mt:=by
 refine AFn.eq Tryz.func138 rfl rfl (Nat.le_of_ble_eq_true rfl) ?_
 have hz:=macsC_len h6
 refine Wq<|qW 0 1 rfl<|qA rfl<|Nl<|Wq<|Wq<|qW 5 7 rfl<|qM rfl<|Od rfl rfl (LO.eqNilI rfl rfl rfl h rfl ty36)<|Nl<|Wo rfl rfl<|Wu<|Wq<|qW 16 20 rfl<|Od rfl rfl (LO.buildSlice rfl ty36 ty23 (by decide) (by decide) .nil)<|qM rfl<|Od rfl rfl (Lap rfl rfl (Ssi rfl rfl hz) rfl (Tl rfl) ty36 ty36 ty23 (by decide) (by omega) (by omega) (by decide))<|qA rfl<|Nl ?_
 rw [List.nil_append,show 0 + b.length=b.length from Nat.zero_add _]
 refine Wy (t:=2) rfl rfl (macs_all h6) (macsC_pure _)<|Wz ⟨.inl rfl,_,mt,Rc (Rt0 rfl) (Rv),aM,?_⟩
 exact ⟨rfl,rfl⟩
theorem andNotM (x j:Nat) (hx:x < 2 ^ 64) (hj:j≤64):bitV .andNot .u64 (x:Int) ((2 ^ j - 1:Nat):Int)=((x / 2 ^ j * 2 ^ j:Nat):Int):=by
 have e1:(BitVec.ofInt 64 (x:Int)).toNat=x:=by rw [BitVec.ofInt_natCast,BitVec.toNat_ofNat];exact Nat.mod_eq_of_lt hx
 have hm:2 ^ j≤2 ^ 64:=Nat.pow_le_pow_right (by decide) hj
 have e2:(BitVec.ofInt 64 ((2 ^ j - 1:Nat):Int)).toNat=2 ^ j - 1:=by rw [BitVec.ofInt_natCast,BitVec.toNat_ofNat];exact Nat.mod_eq_of_lt (by have:=Nat.two_pow_pos j;omega)
 have key:(BitVec.ofInt 64 (x:Int) &&& ~~~BitVec.ofInt 64 ((2 ^ j - 1:Nat):Int)).toNat=x / 2 ^ j * 2 ^ j:=by
  refine Nat.eq_of_testBit_eq fun i=>?_
  rw [← Nat.shiftRight_eq_div_pow,← Nat.shiftLeft_eq,Nat.testBit_shiftLeft,Nat.testBit_shiftRight]
  rw [BitVec.testBit_toNat,BitVec.getLsbD_and,BitVec.getLsbD_not,← BitVec.testBit_toNat,← BitVec.testBit_toNat,e1,e2,Nat.testBit_two_pow_sub_one]
  by_cases h1:j≤i
  ·rw [show j + (i - j)=i from by omega]
   by_cases h2:i < 64
   ·simp [h1,h2]
   ·rw [Nat.testBit_lt_two_pow (Nat.lt_of_lt_of_le hx (Nat.pow_le_pow_right (by decide) (by omega)))];simp
  ·simp [h1];omega
 show IntKind.u64.wrap ((BitVec.ofInt 64 (x:Int) &&& ~~~BitVec.ofInt 64 ((2 ^ j - 1:Nat):Int)).toNat:Int)=_
 rw [key,IntKind.wrap_u64]
 have:=Nat.div_mul_le_self x (2 ^ j)
 omega
theorem andNot8 {x:Int} (h:U64 x):bitV .andNot .u64 x 255=x / 256 * 256:=by
 obtain ⟨n,rfl⟩:=Int.eq_ofNat_of_zero_le h.1
 have:=andNotM n 8 (by have:=h.2;omega) (by decide)
 simpa using this
theorem andNot0 {x:Int} (h:U64 x):bitV .andNot .u64 x 0=x:=by
 obtain ⟨n,rfl⟩:=Int.eq_ofNat_of_zero_le h.1
 have:=andNotM n 0 (by have:=h.2;omega) (by decide)
 simpa using this
theorem andNot64 {x:Int} (h:U64 x):bitV .andNot .u64 x 18446744073709551615=0:=by
 obtain ⟨n,rfl⟩:=Int.eq_ofNat_of_zero_le h.1
 have:=andNotM n 64 (by have:=h.2;omega) (by decide)
 have e:n / 2 ^ 64=0:=Nat.div_eq_of_lt (by have:=h.2;omega)
 rw [e] at this
 simpa using this
def in4 (a:Ad):Bool:=decide (a.lo / 256=12582914)
def in6 (a:Ad):Bool:=decide (a.hi=2306139568115548160)
end Go.Proofs.YtlcndmciognneaaGreatDoor
