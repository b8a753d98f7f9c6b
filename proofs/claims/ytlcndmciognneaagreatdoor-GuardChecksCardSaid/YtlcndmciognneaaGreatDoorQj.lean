/-
  The check sum of data between two addresses: both texts. The document's check sum; the fixed bytes of a message; the packet with a message, by the program. The packet with a message, by the program.
-/
import Derived.Test.YtlcndmciognneaaGreatDoorQg
import Derived.Test.YtlcndmciognneaaGreatDoorMab
namespace Go.Proofs.YtlcndmciognneaaGreatDoor
open Go.RowKit
theorem put_isl (l:List Int) (n:Int) (hl:l.length≤1000000):AFn Tryz.prog 198 1 [.osl 0 0 l.length 1,.base (.int .i64 n)] (up mt 0 (some (bytesC l))) (.isl (bytesC (l++putL n)) (l.length + 2)) mt:=by
 refine AFn.eq Tryz.func198 rfl rfl (Nat.le_of_ble_eq_true rfl)<|Wq<|qW 1 2 rfl<|qA rfl<|Nl<|Wq<|qW 6 15 rfl<|qM rfl<|qM rfl<|Od rfl rfl (LO.shr rfl rfl rfl (by omega))<|Od rfl rfl (LO.conv rfl rfl ty3 ty5)<|qM rfl<|Od rfl rfl (LO.conv rfl rfl ty3 ty5)<|Od rfl rfl (LO.buildSlice rfl ty24 ty5 (by decide) (by decide) (.cons rfl rfl rfl rfl (Sl rfl) (.cons rfl rfl rfl rfl (Sl rfl) .nil)))<|Od rfl rfl (Lap rfl rfl (Sso rfl rfl (Tl rfl)) rfl (bytes_tk rfl) ty24 ty24 ty5 (by decide) (by omega) (by omega) (by decide))<|qA rfl<|Nl ?_
 rw [show bytesC l++[AV.base (.int .u8 (IntKind.u8.wrap (n.fdiv (2 ^ (min (8:Int).toNat IntKind.i64.bits))))),AV.base (.int .u8 (IntKind.u8.wrap n))]=bytesC (l++putL n) from by rw [bytesC_app];rfl]
 refine Wy (t:=4) rfl rfl (bytes_tk (by rw [List.length_append];rfl)) (bytesC_pure _)<|Wz ⟨.inl rfl,_,mt,Rc (Rt rfl) (Rv),aM,?_⟩
 exact ⟨rfl,rfl⟩
def len4 (n:Nat):List Int:=[0,(n:Int) / 65536 % 256,(n:Int) / 256 % 256,(n:Int) % 256]
theorem sh_i64 (n:Nat) (k:Nat) (hk:k < 64):(n:Int).fdiv (2 ^ (min (k:Int).toNat IntKind.i64.bits))=(n:Int) / 2 ^ k:=by
 rw [Int.toNat_natCast,Nat.min_eq_left (show k≤IntKind.i64.bits from by show _≤64;omega),Int.fdiv_eq_ediv_of_nonneg _ (Int.le_of_lt (Int.pow_pos (by decide)))]
theorem put_len4 {n:Nat} (h:n < 16777216):putL ((n:Int).fdiv (2 ^ (min (16:Int).toNat IntKind.i64.bits)))++putL n=len4 n:=by
 have e16:=sh_i64 n 16 (by decide)
 have e8:=sh_i64 n 8 (by decide)
 have e8':=sh_i64 (n / 65536) 8 (by decide)
 simp only [putL,hi8,len4]
 rw [show ((16:Nat):Int)=16 from rfl] at e16
 rw [show ((8:Nat):Int)=8 from rfl] at e8 e8'
 rw [e16,show (n:Int) / 2 ^ 16=((n / 65536:Nat):Int) from by omega,e8',e8,IntKind.wrap_u8',IntKind.wrap_u8',IntKind.wrap_u8',IntKind.wrap_u8']
 simp only [List.cons_append,List.nil_append,List.cons.injEq,and_true]
 omega
def chkParts (s d:Ad) (p:Int) (l:List Int):List (List Int):=[addrL s,addrL d,len4 l.length,[0,0,0,IntKind.u8.wrap p],l]
def chkB (s d:Ad) (p:Int) (l:List Int):List Int:=(chkParts s d p l).flatten
def chkF (s d:Ad) (p:Int) (l:List Int):Int:=sumL (chkB s d p l)
theorem chkB_eq (s d:Ad) (p:Int) (l:List Int):chkB s d p l=addrL s++addrL d++(len4 l.length++[0,0,0,IntKind.u8.wrap p])++l:=by simp [chkB,chkParts]
theorem len4_isB (n:Nat):IsB (len4 n):=fun x hx=>by
 simp only [len4,List.mem_cons,List.not_mem_nil,or_false] at hx
 rcases hx with rfl|rfl|rfl|rfl<;>omega
theorem pr_isB (p:Int):IsB [0,0,0,IntKind.u8.wrap p]:=fun x hx=>by
 have:=u8_bd p
 simp only [List.mem_cons,List.not_mem_nil,or_false] at hx
 rcases hx with rfl|rfl|rfl|rfl<;>omega
theorem chkB_isB (s d:Ad) (p:Int) {l:List Int} (hB:IsB l):IsB (chkB s d p l):=by
 rw [chkB_eq]
 exact (((addrL_isB s).append (addrL_isB d)).append ((len4_isB _).append (pr_isB p))).append hB
theorem addrL_pos (a:Ad):1≤(addrL a).length∧(addrL a).length≤16:=by rw [addrL_len];split<;>omega
theorem chkB_len (s d:Ad) (p:Int) (l:List Int):(chkB s d p l).length=(addrL s).length + (addrL d).length + 8 + l.length:=by
 rw [chkB_eq];simp [len4];omega
set_option maxHeartbeats 1000000 in
theorem chk_any (s d:Ad) (p:Int) (l:List Int) (hs:validA s.v6 s.hi s.lo=true) (hd:validA d.v6 d.hi d.lo=true) (s1:U64 s.hi) (s2:U64 s.lo) (d1:U64 d.hi) (d2:U64 d.lo) (hB:IsB l) (hl:l.length≤100000) :
 AFn Tryz.prog 179 0 [.agg (adC s),.agg (adC d),.base (.int .i64 p),.isl (bytesC l) l.length] mt (.base (.int .u16 (chkF s d p l))) mt:=by
 refine AFn.eq Tryz.func179 rfl rfl (Nat.le_of_ble_eq_true rfl) ?_
 have hbs:=(bytes_any s hs s1 s2).frozen (bytes_tk rfl) (bytesC_pure _)
 have hbd:=(bytes_any d hd d1 d2).frozen (bytes_tk rfl) (bytesC_pure _)
 have p1:=addrL_pos s
 have p2:=addrL_pos d
 have hcl:=chkB_len s d p l
 have hsm:=sum_any (chkB s d p l) (chkB_isB s d p hB) (by omega)
 have hj:=join_any (chkParts s d p l) (Nat.le_of_ble_eq_true rfl) (Nat.le_of_ble_eq_true rfl) (show 1≤(chkB s d p l).length by omega) (show (chkB s d p l).length≤1000000 by omega) p1.1
 have hpn:=put_len4 (n:=l.length) (by omega)
 have hpi:=put_isl (putL ((l.length:Int).fdiv (2 ^ (min (16:Int).toNat IntKind.i64.bits)))) (l.length:Int) (Nat.le_of_ble_eq_true rfl)
 rw [hpn] at hpi
 refine Wq<|qW 0 3 rfl<|qC rfl<|qC rfl<|qA rfl<|Nl<|Wq<|qW 7 10 rfl<|qM rfl<|qH rfl ty24<|qA rfl<|Nl<|Wq<|Wd 14 31 (by decide) rfl mixed rfl<|qG rfl ty54 rfl (Tl rfl)<|qY rfl (hbs) fok180 rfl<|qG rfl ty54 rfl (Tl rfl)<|qY rfl (hbd) fok180 rfl<|qM rfl<|Od rfl rfl (LO.shr rfl rfl rfl (by omega))<|Od rfl rfl (LO.callO (fr:=[]) rfl rfl (put_nil _) fok198 (.cons rfl (.pure rfl) (.cons rfl (.pure rfl) .nil)) rfl (by decide))<|qM rfl<|Od rfl rfl (LO.callD (fr:=[]) rfl rfl (hpi) fok198 (.osl rfl rfl (.cons rfl (.pure rfl) .nil)) rfl rfl rfl (Cn _ _) (by decide) (by decide) (by decide))<|qM rfl<|Od rfl rfl (LO.conv rfl rfl ty3 ty5)<|Od rfl rfl (LO.buildSlice rfl ty24 ty5 (by decide) (by decide) (.cons rfl rfl rfl rfl (Sl rfl) (.cons rfl rfl rfl rfl (Sl rfl) (.cons rfl rfl rfl rfl (Sl rfl) (.cons rfl rfl rfl rfl (Sl rfl) .nil)))))<|qM rfl<|Od rfl rfl (LO.buildSlice rfl ty182 ty24 (by decide) (by decide) (.cons rfl rfl rfl rfl (Sl rfl) (.cons rfl rfl rfl rfl (Sl rfl) (.cons rfl rfl rfl rfl (Sl rfl) (.cons rfl rfl rfl rfl (Sl rfl) (.cons rfl rfl rfl rfl (Sl rfl) .nil))))))<|Od rfl rfl (LO.callO (fr:=[27,25]) rfl rfl (hj) fok197 (.cons rfl (.nest (by decide) rfl (Tl rfl) (.cons (.same rfl) (.cons (.same rfl) (.cons (.same rfl) (.cons (.osl (by decide) rfl (Tl rfl) rfl) (.cons (.same rfl) .nil)))))) (.cons rfl (.pure rfl) .nil)) (bytesC_pure _) (by decide))<|Od rfl rfl (C0 (fr:=[28]) rfl rfl (hsm) fok177 (.cons rfl (.one (.osl (by decide) rfl (bytes_tk rfl) (bytesC_pure _))) .nil) rfl)<|qA rfl<|Nl ⟨by kernel_rfl,(Wz ⟨.inl rfl,_,mt,Rc (Rt rfl) (Rv),aM,?_⟩)⟩
 exact ⟨rfl,rfl⟩
theorem ref_len4 {n:Nat} (h:n < 16777216):[IntKind.u8.wrap ((n:Int).fdiv (2 ^ (min (24:Int).toNat IntKind.i64.bits))),IntKind.u8.wrap ((n:Int).fdiv (2 ^ (min (16:Int).toNat IntKind.i64.bits))),IntKind.u8.wrap ((n:Int).fdiv (2 ^ (min (8:Int).toNat IntKind.i64.bits))),IntKind.u8.wrap (n:Int)]=len4 n:=by
 have e24:=sh_i64 n 24 (by decide)
 have e16:=sh_i64 n 16 (by decide)
 have e8:=sh_i64 n 8 (by decide)
 rw [show ((24:Nat):Int)=24 from rfl] at e24
 rw [show ((16:Nat):Int)=16 from rfl] at e16
 rw [show ((8:Nat):Int)=8 from rfl] at e8
 simp only [len4]
 rw [e24,e16,e8,IntKind.wrap_u8',IntKind.wrap_u8',IntKind.wrap_u8',IntKind.wrap_u8']
 simp only [List.cons.injEq,and_true]
 omega
set_option maxHeartbeats 1000000 in
theorem chkX_any (s d:Ad) (p:Int) (l:List Int) (hs:validA s.v6 s.hi s.lo=true) (hd:validA d.v6 d.hi d.lo=true) (s1:U64 s.hi) (s2:U64 s.lo) (d1:U64 d.hi) (d2:U64 d.lo) (hB:IsB l) (hl:l.length≤100000) :
 AFn Tryz.prog 78 0 [.agg (adC s),.agg (adC d),.base (.int .i64 p),.isl (bytesC l) l.length] mt (.base (.int .u16 (chkF s d p l))) mt:=by
 refine AFn.eq Tryz.func78 rfl rfl (Nat.le_of_ble_eq_true rfl) ?_
 have hbs:=bytesX_any s hs s1 s2
 have hbd:=bytesX_any d hd d1 d2
 have p1:=addrL_pos s
 have p2:=addrL_pos d
 have hcl:=chkB_len s d p l
 have hsm:=sumX_any (chkB s d p l) (chkB_isB s d p hB) (by omega)
 have h8:=ref_len4 (n:=l.length) (by omega)
 refine Wq<|qW 0 3 rfl<|qC rfl<|qC rfl<|qA rfl<|Nl<|Wq<|qW 7 10 rfl<|qM rfl<|qH rfl ty24<|qA rfl<|Nl<|Wq<|Wd 14 20 (by decide) rfl mixed rfl<|qG rfl ty54 rfl (Tl rfl)<|Od rfl rfl (LO.callO (fr:=[]) rfl rfl (hbs) fok85 (.cons rfl (.pure rfl) .nil) (bytesC_pure _) (by decide))<|qG rfl ty54 rfl (Tl rfl)<|Od rfl rfl (LO.callO (fr:=[]) rfl rfl (hbd) fok85 (.cons rfl (.pure rfl) .nil) (bytesC_pure _) (by decide))<|Od rfl rfl (Lap rfl rfl (Sso rfl rfl (bytes_tk rfl)) rfl (bytes_tk rfl) ty24 ty24 ty5 (by decide) (by omega) (by omega) (by decide))<|qA rfl<|Nl ⟨by kernel_rfl,?_⟩
 rw [← bytesC_app,← List.length_append]
 have hls:(addrL s++addrL d).length=(addrL s).length + (addrL d).length:=List.length_append
 obtain ⟨X,hX⟩:∃ X,addrL s++addrL d=X:=⟨_,rfl⟩
 rw [hX] at hls ⊢
 refine Wq<|qW 24 41 rfl<|qM rfl<|qM rfl<|Od rfl rfl (LO.shr rfl rfl rfl (by omega))<|Od rfl rfl (LO.conv rfl rfl ty3 ty5)<|qM rfl<|Od rfl rfl (LO.shr rfl rfl rfl (by omega))<|Od rfl rfl (LO.conv rfl rfl ty3 ty5)<|qM rfl<|Od rfl rfl (LO.shr rfl rfl rfl (by omega))<|Od rfl rfl (LO.conv rfl rfl ty3 ty5)<|qM rfl<|Od rfl rfl (LO.conv rfl rfl ty3 ty5)<|qM rfl<|Od rfl rfl (LO.conv rfl rfl ty3 ty5)<|Od rfl rfl (LO.buildSlice rfl ty24 ty5 (by decide) (by decide) (.cons rfl rfl rfl rfl (Sl rfl) (.cons rfl rfl rfl rfl (Sl rfl) (.cons rfl rfl rfl rfl (Sl rfl) (.cons rfl rfl rfl rfl (Sl rfl) (.cons rfl rfl rfl rfl (Sl rfl) (.cons rfl rfl rfl rfl (Sl rfl) (.cons rfl rfl rfl rfl (Sl rfl) (.cons rfl rfl rfl rfl (Sl rfl) .nil)))))))))<|Od rfl rfl (Lap rfl rfl (Sso rfl rfl (Tl rfl)) rfl (bytes_tk rfl) ty24 ty24 ty5 (by decide) (by omega) (by omega) (by decide))<|qA rfl<|Nl ?_
 have e3:bytesC X++[AV.base (.int .u8 (IntKind.u8.wrap ((l.length:Int).fdiv (2 ^ (min (24:Int).toNat IntKind.i64.bits))))),AV.base (.int .u8 (IntKind.u8.wrap ((l.length:Int).fdiv (2 ^ (min (16:Int).toNat IntKind.i64.bits))))),AV.base (.int .u8 (IntKind.u8.wrap ((l.length:Int).fdiv (2 ^ (min (8:Int).toNat IntKind.i64.bits))))),AV.base (.int .u8 (IntKind.u8.wrap (l.length:Int))),AV.base (.int .u8 0),AV.base (.int .u8 0),AV.base (.int .u8 0),AV.base (.int .u8 (IntKind.u8.wrap p))]=bytesC (X++(len4 l.length++[0,0,0,IntKind.u8.wrap p])):=by
  rw [← h8,bytesC_app];rfl
 rw [e3]
 have hl3:(X++(len4 l.length++[0,0,0,IntKind.u8.wrap p])).length=X.length + 8:=by rw [List.length_append];rfl
 rw [← hl3]
 obtain ⟨Y,hY⟩:∃ Y,X++(len4 l.length++[0,0,0,IntKind.u8.wrap p])=Y:=⟨_,rfl⟩
 rw [hY] at hl3 ⊢
 have hfin:Y++l=chkB s d p l:=by rw [chkB_eq,← hY,← hX]
 refine Wq<|qW 45 50 rfl<|qM rfl<|qM rfl<|Od rfl rfl (Lap rfl rfl (Ssi rfl rfl (by simp [bytesC])) rfl (bytes_tk rfl) ty24 ty24 ty5 (by decide) (by omega) (by omega) (by decide)) ?_
 rw [← bytesC_app,← List.length_append,hfin]
 refine Od rfl rfl (C0 (fr:=[47]) rfl rfl (hsm) fok76 (.cons rfl (.one (.osl (by decide) rfl (bytes_tk rfl) (bytesC_pure _))) .nil) rfl)<|qA rfl<|Nl<|Wz ⟨.inl rfl,_,mt,Rc (Rt rfl) (Rv),aM,?_⟩
 exact ⟨rfl,rfl⟩
theorem zerosB (n:Nat):zerosL n [.base (.int .u8 0)]=bytesC (List.replicate n 0):=by
 unfold zerosL bytesC
 induction n with
 | zero=>rfl
 | succ n ih=>simp [List.replicate_succ] at ih ⊢
def flB (n:Nb):Int:=IntKind.u8.wrap (IntKind.i64.wrap (n.fl * 2 ^ (min (5:Int).toNat IntKind.i64.bits)))
def fixL (n:Nb):List Int:=if n.k=133 then List.replicate 4 0 else if n.k=134 then List.replicate 12 0 else if n.k=137 then List.replicate 4 0++addrL n.tg++addrL n.tg else [flB n,0,0,0]++addrL n.tg
theorem fixed_any (n:Nb) (hl:n.ln.length=6) (hv:validA n.tg.v6 n.tg.hi n.tg.lo=true) (h1:U64 n.tg.hi) (h2:U64 n.tg.lo):AFn Tryz.prog 153 0 [.agg (nbC n)] mt (.osl 0 0 (fixL n).length 1) (up mt 0 (some (bytesC (fixL n)))):=by
 refine AFn.eq Tryz.func153 rfl rfl (Nat.le_of_ble_eq_true rfl) ?_
 have hb:=bytes_any n.tg hv h1 h2
 have p1:=addrL_pos n.tg
 have hto:Tk (nbC n) (0 + 2) 3 (adC n.tg):=nb_tkA n
 refine Wq<|qW 0 2 rfl<|qC rfl<|qA rfl<|Nl<|Wq<|qW 6 10 rfl<|qF rfl ty87 rfl<|qG rfl ty54 rfl (Tl rfl)<|Od rfl rfl (LO.callO (fr:=[]) rfl rfl (hb) fok180 (.cons rfl (.pure rfl) .nil) (bytesC_pure _) (by decide))<|qA rfl<|Nl<|Wq<|Wq<|qW 14 16 rfl<|qF rfl ty87 rfl<|qL rfl ty3 rfl<|Nl<|Wb ?_
 by_cases k1:n.k=133
 ·have g1:(n.k == 133)=true:=by simpa using k1
  have hf:fixL n=List.replicate 4 0:=if_pos k1
  rw [hf]
  refine Wq<|qW 20 22 rfl<|qE rfl<|qA rfl<|Nl<|Wt rfl ‹_›<|Wq<|qW 26 28 rfl<|Od rfl rfl (LO.makeSlice rfl rfl rfl rfl rfl ty24 ty5 (by decide) (by omega) (by decide) (by decide))<|qA rfl<|Nl ?_
  rw [zerosB]
  refine W.rename [(0,26)] 1 (T':=up mt 2 (some (.osl 0 0 (4) 1))) (H':=up mt 0 (some (bytesC (List.replicate 4 0)))) (by decide) ?_ ?_ ?_
  ·exact aU (lI rfl) aM
  ·exact aU (kR rfl) aM
  refine Wz ⟨.inl rfl,_,up mt 0 (some (bytesC (List.replicate 4 0))),Rc (Rt rfl) Rv,aU rfl aM,?_⟩
  exact ⟨rfl,rfl⟩
 ·have g1:(n.k == 133)=false:=by simpa using k1
  by_cases k2:n.k=134
  ·have g2:(n.k == 134)=true:=by simpa using k2
   have hf:fixL n=List.replicate 12 0:=by unfold fixL;rw [if_neg k1,if_pos k2]
   rw [hf]
   refine Wq<|qW 20 22 rfl<|qE rfl<|qA rfl<|Nl<|Wo rfl ‹_›<|Wq<|qW 32 34 rfl<|qE rfl<|qA rfl<|Nl<|Wt rfl ‹_›<|Wq<|qW 38 40 rfl<|Od rfl rfl (LO.makeSlice rfl rfl rfl rfl rfl ty24 ty5 (by decide) (by omega) (by decide) (by decide))<|qA rfl<|Nl ?_
   rw [zerosB]
   refine W.rename [(0,38)] 1 (T':=up mt 2 (some (.osl 0 0 (12) 1))) (H':=up mt 0 (some (bytesC (List.replicate 12 0)))) (by decide) ?_ ?_ ?_
   ·exact aU (lI rfl) aM
   ·exact aU (kR rfl) aM
   refine Wz ⟨.inl rfl,_,up mt 0 (some (bytesC (List.replicate 12 0))),Rc (Rt rfl) Rv,aU rfl aM,?_⟩
   exact ⟨rfl,rfl⟩
  ·have g2:(n.k == 134)=false:=by simpa using k2
   by_cases k3:n.k=137
   ·have g3:(n.k == 137)=true:=by simpa using k3
    have hf:fixL n=List.replicate 4 0++addrL n.tg++addrL n.tg:=by unfold fixL;rw [if_neg k1,if_neg k2,if_pos k3]
    rw [hf]
    refine Wq<|qW 20 22 rfl<|qE rfl<|qA rfl<|Nl<|Wo rfl ‹_›<|Wq<|qW 32 34 rfl<|qE rfl<|qA rfl<|Nl<|Wo rfl ‹_›<|Wq<|qW 44 46 rfl<|qE rfl<|qA rfl<|Nl<|Wt rfl ‹_›<|Wq<|qW 50 56 rfl<|Od rfl rfl (LO.makeSlice rfl rfl rfl rfl rfl ty24 ty5 (by decide) (by omega) (by decide) (by decide)) ?_
    rw [zerosB]
    refine qM rfl<|Od rfl rfl (Lap rfl rfl (Sso rfl rfl (bytes_tk rfl)) rfl (bytes_tk (l:=List.replicate 4 0) rfl) ty24 ty24 ty5 (by decide) (by (simp;omega)) (by (simp;omega)) (by decide)) ?_
    rw [← bytesC_app]
    refine qM rfl<|Od rfl rfl (Lap rfl rfl (Sso rfl rfl (bytes_tk rfl)) rfl (bytes_tk (l:=List.replicate 4 0++addrL n.tg) (by simp;omega)) ty24 ty24 ty5 (by decide) (by (simp;omega)) (by (simp;omega)) (by decide))<|qA rfl<|Nl ?_
    rw [← bytesC_app,show 4 + (addrL n.tg).length + (addrL n.tg).length=(List.replicate 4 (0:Int)++addrL n.tg++addrL n.tg).length from by simp;omega]
    refine W.rename [(0,54)] 1 (T':=up mt 2 (some (.osl 0 0 ((List.replicate 4 (0:Int)++addrL n.tg++addrL n.tg).length) 1))) (H':=up mt 0 (some (bytesC (List.replicate 4 0++addrL n.tg++addrL n.tg)))) (by decide) ?_ ?_ ?_
    ·exact aU (lI rfl) aM
    ·exact aU (kP rfl (bytesC_pure _)) aM
    refine Wz ⟨.inl rfl,_,up mt 0 (some (bytesC (List.replicate 4 0++addrL n.tg++addrL n.tg))),Rc (Rt rfl) Rv,aU rfl aM,?_⟩
    exact ⟨rfl,rfl⟩
   ·have g3:(n.k == 137)=false:=by simpa using k3
    have hf:fixL n=[flB n,0,0,0]++addrL n.tg:=by unfold fixL;rw [if_neg k1,if_neg k2,if_neg k3]
    rw [hf]
    refine Wq<|qW 20 22 rfl<|qE rfl<|qA rfl<|Nl<|Wo rfl ‹_›<|Wq<|qW 32 34 rfl<|qE rfl<|qA rfl<|Nl<|Wo rfl ‹_›<|Wq<|qW 44 46 rfl<|qE rfl<|qA rfl<|Nl<|Wo rfl ‹_›<|Wu<|Wq<|qW 60 68 rfl<|qF rfl ty87 rfl<|qL rfl ty3 rfl<|Od rfl rfl (LO.shl rfl rfl rfl (by decide))<|Od rfl rfl (LO.conv rfl rfl ty3 ty5)<|Od rfl rfl (LO.buildSlice rfl ty24 ty5 (by decide) (by decide) (.cons rfl rfl rfl rfl (Sl rfl) (.cons rfl rfl rfl rfl (Sl rfl) (.cons rfl rfl rfl rfl (Sl rfl) (.cons rfl rfl rfl rfl (Sl rfl) .nil)))))<|qM rfl<|Od rfl rfl (Lap rfl rfl (Sso rfl rfl (bytes_tk rfl)) rfl (Tl rfl) ty24 ty24 ty5 (by decide) (by omega) (by omega) (by decide))<|qA rfl<|Nl ?_
    rw [show [AV.base (.int .u8 (IntKind.u8.wrap (IntKind.i64.wrap (n.fl * 2 ^ (min (5:Int).toNat IntKind.i64.bits))))),AV.base (.int .u8 0),AV.base (.int .u8 0),AV.base (.int .u8 0)]++bytesC (addrL n.tg)=bytesC ([flB n,0,0,0]++addrL n.tg) from by rw [bytesC_app];rfl,show 4 + (addrL n.tg).length=([flB n,0,0,0]++addrL n.tg).length from by simp;omega]
    refine W.rename [(0,66)] 1 (T':=up mt 2 (some (.osl 0 0 (([flB n,0,0,0]++addrL n.tg).length) 1))) (H':=up mt 0 (some (bytesC ([flB n,0,0,0]++addrL n.tg)))) (by decide) ?_ ?_ ?_
    ·exact aU (lI rfl) aM
    ·exact aU (kP rfl (bytesC_pure _)) aM
    refine Wz ⟨.inl rfl,_,up mt 0 (some (bytesC ([flB n,0,0,0]++addrL n.tg))),Rc (Rt rfl) Rv,aU rfl aM,?_⟩
    exact ⟨rfl,rfl⟩
def encL (n:Nb):List Int:=[IntKind.u8.wrap n.k,0,0,0]++fixL n++(if n.has then [optN n.k,1]++n.ln else [])
def sumL2 (c:Int) (l:List Int):List Int:=(l.set 2 (IntKind.u8.wrap (c.fdiv (2 ^ (min (8:Int).toNat IntKind.u16.bits))))).set 3 (IntKind.u8.wrap c)
def encN (n:Nb) (s d:Ad):Pk:=⟨s,d,58,255,sumL2 (chkF s d 58 (encL n)) (encL n)⟩
def okN (n:Nb) (s d:Ad):Bool:=validN n && (s.v6 && d.v6)
def zPk:Pk:=⟨zAd,zAd,0,0,[]⟩
theorem fixL_isB (n:Nb):IsB (fixL n):=by
 unfold fixL
 split
 ·intro x hx;rw [List.eq_of_mem_replicate hx];decide
 ·split
  ·intro x hx;rw [List.eq_of_mem_replicate hx];decide
  ·split
   ·exact IsB.append (IsB.append (fun x hx=>by rw [List.eq_of_mem_replicate hx];decide) (addrL_isB _)) (addrL_isB _)
   ·refine IsB.append (fun x hx=>?_) (addrL_isB _)
    have:=u8_bd (IntKind.i64.wrap (n.fl * 2 ^ (min (5:Int).toNat IntKind.i64.bits)))
    simp only [List.mem_cons,List.not_mem_nil,or_false] at hx
    rcases hx with rfl|rfl|rfl|rfl
    ·exact this
    ·decide
    ·decide
    ·decide
theorem fixL_len (n:Nb):(fixL n).length≤36:=by
 have:=addrL_pos n.tg
 unfold fixL
 split
 ·simp
 ·split
  ·simp
  ·split<;>simp<;>omega
theorem optN_bd (k:Int):0≤optN k∧optN k≤255:=by unfold optN;split<;>decide
theorem encL_isB {n:Nb} (hB:IsB n.ln):IsB (encL n):=by
 refine IsB.append (IsB.append (fun x hx=>?_) (fixL_isB n)) ?_
 ·have:=u8_bd n.k
  simp only [List.mem_cons,List.not_mem_nil,or_false] at hx
  rcases hx with rfl|rfl|rfl|rfl
  ·exact this
  ·decide
  ·decide
  ·decide
 ·split
  ·refine IsB.append (fun x hx=>?_) hB
   have:=optN_bd n.k
   simp only [List.mem_cons,List.not_mem_nil,or_false] at hx
   rcases hx with rfl|rfl
   ·exact this
   ·decide
  ·intro x hx;cases hx
theorem encL_len {n:Nb} (hl:n.ln.length=6):4≤(encL n).length∧(encL n).length≤48:=by
 have:=fixL_len n
 unfold encL
 split<;>simp [hl]<;>omega
theorem validN_tg {n:Nb} (h:validN n=true):validA n.tg.v6 n.tg.hi n.tg.lo=true:=by
 unfold validN at h
 simp only [Bool.and_eq_true] at h
 have h7:=h.2.2.2.2.2.2
 split at h7
 ·simp only [Bool.and_eq_true] at h7
  unfold validA;rw [h7.1];rfl
 ·rw [eqA_iff.1 h7];rfl
theorem nbC_pure (n:Nb):(nbC n).all AV.pure1=true:=by
 unfold nbC adC
 rw [List.all_append,bytesC_pure];rfl
theorem tk_len {cs:List AV} {n:Nat} (h:cs.length=n * 1):Tk cs 0 (n * 1) cs:=by rw [← h];exact Tk.all cs
theorem sumL2_len (c:Int) (l:List Int):(sumL2 c l).length=l.length:=by simp [sumL2]
def encV (n:Nb) (s d:Ad):AV:=.tup [.agg (pkC (if okN n s d then encN n s d else zPk)),.base (.int .i64 (if okN n s d then 0 else 1))]
end Go.Proofs.YtlcndmciognneaaGreatDoor
