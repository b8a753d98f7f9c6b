/-
  The document's check sum; the fixed bytes of a message; the packet with a message, by the program. The packet with a message, by the program.
-/
import Derived.Test.YtcidmiacfjdepaaGreatDoorQh
import Derived.Test.YtcidmiacfjdepaaGreatDoorMab
namespace Go.Proofs.YtcidmiacfjdepaaGreatDoor
open Go.RowKit
theorem ref_len4 {n:Nat} (h:n < 16777216):[IntKind.u8.wrap ((n:Int).fdiv (2 ^ (min (24:Int).toNat IntKind.i64.bits))),IntKind.u8.wrap ((n:Int).fdiv (2 ^ (min (16:Int).toNat IntKind.i64.bits))),IntKind.u8.wrap ((n:Int).fdiv (2 ^ (min (8:Int).toNat IntKind.i64.bits))),IntKind.u8.wrap (n:Int)]=len4 n:=by
  have e24:=sh_i64 n 24 (by decide)
  have e16:=sh_i64 n 16 (by decide)
  have e8:=sh_i64 n 8 (by decide)
  rw [show ((24:Nat):Int)=24 from rfl] at e24
  rw [show ((16:Nat):Int)=16 from rfl] at e16
  rw [show ((8:Nat):Int)=8 from rfl] at e8
  simp only [len4]
  rw [e24,e16,e8,IntKind.wrap_u8',IntKind.wrap_u8',IntKind.wrap_u8',IntKind.wrap_u8']
  simp only [List.cons.injEq,and_true]
  omega
set_option maxHeartbeats 1000000 in
theorem chkX_any (s d:Ad) (p:Int) (l:List Int) (hs:validA s.v6 s.hi s.lo=true) (hd:validA d.v6 d.hi d.lo=true) (s1:U64 s.hi) (s2:U64 s.lo) (d1:U64 d.hi) (d2:U64 d.lo) (hB:IsB l) (hl:l.length≤100000) :
    AFn Tryz.prog 69 0 [.agg (adC s),.agg (adC d),.base (.int .i64 p),.isl (bytesC l) l.length] mt (.base (.int .u16 (chkF s d p l))) mt:=by
  refine AFn.eq Tryz.func69 rfl rfl (Nat.le_of_ble_eq_true rfl) ?_
  have hbs:=bytesX_any s hs s1 s2
  have hbd:=bytesX_any d hd d1 d2
  have p1:=addrL_pos s
  have p2:=addrL_pos d
  have hcl:=chkB_len s d p l
  have hsm:=sumX_any (chkB s d p l) (chkB_isB s d p hB) (by omega)
  have h8:=ref_len4 (n:=l.length) (by omega)
  refine Wq (qW 0 3 rfl rfl rfl (qC rfl rfl rfl (qC rfl rfl rfl (qA rfl rfl (Nl (Wq (qW 7 10 rfl rfl rfl (qM rfl rfl (qH rfl rfl rfl ty24 (qA rfl rfl (Nl (Wq (Wd 14 20 (by decide) rfl mixed rfl (qG rfl rfl rfl ty42 rfl (Tl rfl) (Od rfl rfl (LO.callO (fr:=[]) rfl rfl (hbs) fok44 (.cons rfl (.pure rfl) .nil) (bytesC_pure _) (by decide)) (qG rfl rfl rfl ty42 rfl (Tl rfl) (Od rfl rfl (LO.callO (fr:=[]) rfl rfl (hbd) fok44 (.cons rfl (.pure rfl) .nil) (bytesC_pure _) (by decide)) (Od rfl rfl (Lap rfl rfl (Sso rfl rfl (bytes_tk rfl)) rfl (bytes_tk rfl) ty24 ty24 ty5 (by decide) (by first|omega|decide|assumption|(simp;done)|(simp;omega)) (by first|omega|decide|assumption|(simp;done)|(simp;omega)) (by first|decide|omega)) (qA rfl rfl (Nl ⟨by kernel_rfl,?_⟩))))))))))))))))))))
  rw [← bytesC_app,← List.length_append]
  have hls:(addrL s++addrL d).length=(addrL s).length + (addrL d).length:=List.length_append
  obtain ⟨X,hX⟩:∃ X,addrL s++addrL d=X:=⟨_,rfl⟩
  rw [hX] at hls ⊢
  refine Wq (qW 24 41 rfl rfl rfl (qM rfl rfl (qM rfl rfl (Od rfl rfl (LO.shr rfl rfl rfl (by first|omega|decide|assumption|(simp;done)|(simp;omega))) (Od rfl rfl (LO.conv rfl rfl ty3 ty5) (qM rfl rfl (Od rfl rfl (LO.shr rfl rfl rfl (by first|omega|decide|assumption|(simp;done)|(simp;omega))) (Od rfl rfl (LO.conv rfl rfl ty3 ty5) (qM rfl rfl (Od rfl rfl (LO.shr rfl rfl rfl (by first|omega|decide|assumption|(simp;done)|(simp;omega))) (Od rfl rfl (LO.conv rfl rfl ty3 ty5) (qM rfl rfl (Od rfl rfl (LO.conv rfl rfl ty3 ty5) (qM rfl rfl (Od rfl rfl (LO.conv rfl rfl ty3 ty5) (Od rfl rfl (LO.buildSlice rfl ty24 ty5 (by decide) (by decide) (.cons rfl rfl rfl rfl (Sl rfl) (.cons rfl rfl rfl rfl (Sl rfl) (.cons rfl rfl rfl rfl (Sl rfl) (.cons rfl rfl rfl rfl (Sl rfl) (.cons rfl rfl rfl rfl (Sl rfl) (.cons rfl rfl rfl rfl (Sl rfl) (.cons rfl rfl rfl rfl (Sl rfl) (.cons rfl rfl rfl rfl (Sl rfl) .nil))))))))) (Od rfl rfl (Lap rfl rfl (Sso rfl rfl (Tl rfl)) rfl (bytes_tk rfl) ty24 ty24 ty5 (by decide) (by first|omega|decide|assumption|(simp;done)|(simp;omega)) (by first|omega|decide|assumption|(simp;done)|(simp;omega)) (by first|decide|omega)) (qA rfl rfl (Nl ?_)))))))))))))))))))
  have e3:bytesC X++[AV.base (.int .u8 (IntKind.u8.wrap ((l.length:Int).fdiv (2 ^ (min (24:Int).toNat IntKind.i64.bits))))),AV.base (.int .u8 (IntKind.u8.wrap ((l.length:Int).fdiv (2 ^ (min (16:Int).toNat IntKind.i64.bits))))),AV.base (.int .u8 (IntKind.u8.wrap ((l.length:Int).fdiv (2 ^ (min (8:Int).toNat IntKind.i64.bits))))),AV.base (.int .u8 (IntKind.u8.wrap (l.length:Int))),AV.base (.int .u8 0),AV.base (.int .u8 0),AV.base (.int .u8 0),AV.base (.int .u8 (IntKind.u8.wrap p))]=bytesC (X++(len4 l.length++[0,0,0,IntKind.u8.wrap p])):=by
    rw [← h8,bytesC_app];rfl
  rw [e3]
  have hl3:(X++(len4 l.length++[0,0,0,IntKind.u8.wrap p])).length=X.length + 8:=by rw [List.length_append];rfl
  rw [← hl3]
  obtain ⟨Y,hY⟩:∃ Y,X++(len4 l.length++[0,0,0,IntKind.u8.wrap p])=Y:=⟨_,rfl⟩
  rw [hY] at hl3 ⊢
  have hfin:Y++l=chkB s d p l:=by rw [chkB_eq,← hY,← hX]
  refine Wq (qW 45 50 rfl rfl rfl (qM rfl rfl (qM rfl rfl (Od rfl rfl (Lap rfl rfl (Ssi rfl rfl (by first|rfl|assumption|simp [bytesC])) rfl (bytes_tk rfl) ty24 ty24 ty5 (by decide) (by (first|omega|decide|assumption|simp [bytesC]|(simp;done)|(simp;omega))) (by (first|omega|decide|assumption|simp [bytesC]|(simp;done)|(simp;omega))) (by first|decide|omega)) ?_))))
  rw [← bytesC_app,← List.length_append,hfin]
  refine Od rfl rfl (C0 (fr:=[47]) rfl rfl (hsm) fok67 (.cons rfl (.one (.osl (by decide) rfl (bytes_tk rfl) (bytesC_pure _))) .nil) rfl) (qA rfl rfl (Nl (Wz ⟨.inl rfl,_,mt,Rc (Rt rfl) (Rn),all_mt,?_⟩)))
  exact ⟨rfl,rfl⟩
theorem zerosB (n:Nat):zerosL n [.base (.int .u8 0)]=bytesC (List.replicate n 0):=by
  unfold zerosL bytesC
  induction n with
  | zero=>rfl
  | succ n ih=>simp [List.replicate_succ] at ih ⊢
/-- the fixed bytes -/
def flB (n:Nb):Int:=IntKind.u8.wrap (IntKind.i64.wrap (n.fl * 2 ^ (min (5:Int).toNat IntKind.i64.bits)))
def fixL (n:Nb):List Int:=if n.k=133 then List.replicate 4 0 else if n.k=134 then List.replicate 12 0 else if n.k=137 then List.replicate 4 0++addrL n.tg++addrL n.tg else [flB n,0,0,0]++addrL n.tg
theorem fixed_any (n:Nb) (hl:n.ln.length=6) (hv:validA n.tg.v6 n.tg.hi n.tg.lo=true) (h1:U64 n.tg.hi) (h2:U64 n.tg.lo):AFn Tryz.prog 60 0 [.agg (nbC n)] mt (.osl 0 0 (fixL n).length 1) (up mt 0 (some (bytesC (fixL n)))):=by
  refine AFn.eq Tryz.func60 rfl rfl (Nat.le_of_ble_eq_true rfl) ?_
  have hb:=bytes_any n.tg hv h1 h2
  have p1:=addrL_pos n.tg
  have hto:Tk (nbC n) (0 + 2) 3 (adC n.tg):=nb_tkA n
  refine Wq (qW 0 2 rfl rfl rfl (qC rfl rfl rfl (qA rfl rfl (Nl (Wq (qW 6 10 rfl rfl rfl (qF rfl rfl ty78 rfl rfl (qG rfl rfl rfl ty42 rfl (Tl rfl) (Od rfl rfl (LO.callO (fr:=[]) rfl rfl (hb) fok92 (.cons rfl (.pure rfl) .nil) (bytesC_pure _) (by decide)) (qA rfl rfl (Nl (Wq (Wq (qW 14 16 rfl rfl rfl (qF rfl rfl ty78 rfl rfl (qL rfl rfl rfl rfl ty3 rfl (Nl (Wb ?_))))))))))))))))))
  by_cases k1:n.k=133
  · have g1:(n.k == 133)=true:=by simpa using k1
    have hf:fixL n=List.replicate 4 0:=if_pos k1
    rw [hf]
    refine Wq (qW 20 22 rfl rfl rfl (qE rfl rfl rfl (qA rfl rfl (Nl (Wt rfl ‹_› (Wq (qW 26 28 rfl rfl rfl (Od rfl rfl (LO.makeSlice rfl rfl rfl rfl rfl ty24 ty5 (by decide) (by first|omega|decide|assumption|(simp;done)|(simp;omega)) (by first|omega|decide|assumption|(simp;done)|(simp;omega)) (by first|omega|decide|assumption|(simp;done)|(simp;omega))) (qA rfl rfl (Nl ?_))))))))))
    rw [zerosB]
    refine W.rename [(0,26)] 1 (T':=up mt 2 (some (.osl 0 0 (4) 1))) (H':=up mt 0 (some (bytesC (List.replicate 4 0)))) (by decide) ?_ ?_ ?_
    · (repeat' (first|exact all_mt|refine all_up ?_ ?_))<;>first|exact .inl ⟨rfl,rfl⟩|exact .inr ⟨rfl,fun _ h=>by cases h⟩|exact .inl ⟨rfl,by first|rfl|assumption|exact (bytesC_pure _)⟩
    · (repeat' (first|exact all_mt|refine all_up ?_ ?_))<;>first|exact ⟨rfl,_,rfl,.inr ⟨rfl,rfl⟩⟩|exact ⟨rfl,_,rfl,.inl rfl⟩|exact ⟨rfl,_,rfl,.inr ⟨rfl,by first|rfl|assumption|exact (bytesC_pure _)⟩⟩
    refine Wz ⟨.inl rfl,_,up mt 0 (some (bytesC (List.replicate 4 0))),Rc (Rt rfl) Rn,all_up rfl all_mt,?_⟩
    exact ⟨rfl,rfl⟩
  · have g1:(n.k == 133)=false:=by simpa using k1
    by_cases k2:n.k=134
    · have g2:(n.k == 134)=true:=by simpa using k2
      have hf:fixL n=List.replicate 12 0:=by unfold fixL;rw [if_neg k1,if_pos k2]
      rw [hf]
      refine Wq (qW 20 22 rfl rfl rfl (qE rfl rfl rfl (qA rfl rfl (Nl (Wf rfl ‹_› (Wq (qW 32 34 rfl rfl rfl (qE rfl rfl rfl (qA rfl rfl (Nl (Wt rfl ‹_› (Wq (qW 38 40 rfl rfl rfl (Od rfl rfl (LO.makeSlice rfl rfl rfl rfl rfl ty24 ty5 (by decide) (by first|omega|decide|assumption|(simp;done)|(simp;omega)) (by first|omega|decide|assumption|(simp;done)|(simp;omega)) (by first|omega|decide|assumption|(simp;done)|(simp;omega))) (qA rfl rfl (Nl ?_))))))))))))))))
      rw [zerosB]
      refine W.rename [(0,38)] 1 (T':=up mt 2 (some (.osl 0 0 (12) 1))) (H':=up mt 0 (some (bytesC (List.replicate 12 0)))) (by decide) ?_ ?_ ?_
      · (repeat' (first|exact all_mt|refine all_up ?_ ?_))<;>first|exact .inl ⟨rfl,rfl⟩|exact .inr ⟨rfl,fun _ h=>by cases h⟩|exact .inl ⟨rfl,by first|rfl|assumption|exact (bytesC_pure _)⟩
      · (repeat' (first|exact all_mt|refine all_up ?_ ?_))<;>first|exact ⟨rfl,_,rfl,.inr ⟨rfl,rfl⟩⟩|exact ⟨rfl,_,rfl,.inl rfl⟩|exact ⟨rfl,_,rfl,.inr ⟨rfl,by first|rfl|assumption|exact (bytesC_pure _)⟩⟩
      refine Wz ⟨.inl rfl,_,up mt 0 (some (bytesC (List.replicate 12 0))),Rc (Rt rfl) Rn,all_up rfl all_mt,?_⟩
      exact ⟨rfl,rfl⟩
    · have g2:(n.k == 134)=false:=by simpa using k2
      by_cases k3:n.k=137
      · have g3:(n.k == 137)=true:=by simpa using k3
        have hf:fixL n=List.replicate 4 0++addrL n.tg++addrL n.tg:=by unfold fixL;rw [if_neg k1,if_neg k2,if_pos k3]
        rw [hf]
        refine Wq (qW 20 22 rfl rfl rfl (qE rfl rfl rfl (qA rfl rfl (Nl (Wf rfl ‹_› (Wq (qW 32 34 rfl rfl rfl (qE rfl rfl rfl (qA rfl rfl (Nl (Wf rfl ‹_› (Wq (qW 44 46 rfl rfl rfl (qE rfl rfl rfl (qA rfl rfl (Nl (Wt rfl ‹_› (Wq (qW 50 56 rfl rfl rfl (Od rfl rfl (LO.makeSlice rfl rfl rfl rfl rfl ty24 ty5 (by decide) (by first|omega|decide|assumption|(simp;done)|(simp;omega)) (by first|omega|decide|assumption|(simp;done)|(simp;omega)) (by first|omega|decide|assumption|(simp;done)|(simp;omega))) ?_))))))))))))))))))))
        rw [zerosB]
        refine qM rfl rfl (Od rfl rfl (Lap rfl rfl (Sso rfl rfl (bytes_tk rfl)) rfl (bytes_tk (l:=List.replicate 4 0) rfl) ty24 ty24 ty5 (by decide) (by first|omega|(simp;omega)) (by first|omega|(simp;omega)) (by decide)) ?_)
        rw [← bytesC_app]
        refine qM rfl rfl (Od rfl rfl (Lap rfl rfl (Sso rfl rfl (bytes_tk rfl)) rfl (bytes_tk (l:=List.replicate 4 0++addrL n.tg) (by simp;omega)) ty24 ty24 ty5 (by decide) (by first|omega|(simp;omega)) (by first|omega|(simp;omega)) (by decide)) (qA rfl rfl (Nl ?_)))
        rw [← bytesC_app,show 4 + (addrL n.tg).length + (addrL n.tg).length=(List.replicate 4 (0:Int)++addrL n.tg++addrL n.tg).length from by simp;omega]
        refine W.rename [(0,54)] 1 (T':=up mt 2 (some (.osl 0 0 ((List.replicate 4 (0:Int)++addrL n.tg++addrL n.tg).length) 1))) (H':=up mt 0 (some (bytesC (List.replicate 4 0++addrL n.tg++addrL n.tg)))) (by decide) ?_ ?_ ?_
        · (repeat' (first|exact all_mt|refine all_up ?_ ?_))<;>first|exact .inl ⟨rfl,rfl⟩|exact .inr ⟨rfl,fun _ h=>by cases h⟩|exact .inl ⟨rfl,by first|rfl|assumption|exact (bytesC_pure _)⟩
        · (repeat' (first|exact all_mt|refine all_up ?_ ?_))<;>first|exact ⟨rfl,_,rfl,.inr ⟨rfl,rfl⟩⟩|exact ⟨rfl,_,rfl,.inl rfl⟩|exact ⟨rfl,_,rfl,.inr ⟨rfl,by first|rfl|assumption|exact (bytesC_pure _)⟩⟩
        refine Wz ⟨.inl rfl,_,up mt 0 (some (bytesC (List.replicate 4 0++addrL n.tg++addrL n.tg))),Rc (Rt rfl) Rn,all_up rfl all_mt,?_⟩
        exact ⟨rfl,rfl⟩
      · have g3:(n.k == 137)=false:=by simpa using k3
        have hf:fixL n=[flB n,0,0,0]++addrL n.tg:=by unfold fixL;rw [if_neg k1,if_neg k2,if_neg k3]
        rw [hf]
        refine Wq (qW 20 22 rfl rfl rfl (qE rfl rfl rfl (qA rfl rfl (Nl (Wf rfl ‹_› (Wq (qW 32 34 rfl rfl rfl (qE rfl rfl rfl (qA rfl rfl (Nl (Wf rfl ‹_› (Wq (qW 44 46 rfl rfl rfl (qE rfl rfl rfl (qA rfl rfl (Nl (Wf rfl ‹_› (Wk (Wq (qW 60 68 rfl rfl rfl (qF rfl rfl ty78 rfl rfl (qL rfl rfl rfl rfl ty3 rfl (Od rfl rfl (LO.shl rfl rfl rfl (by decide)) (Od rfl rfl (LO.conv rfl rfl ty3 ty5) (Od rfl rfl (LO.buildSlice rfl ty24 ty5 (by decide) (by decide) (.cons rfl rfl rfl rfl (Sl rfl) (.cons rfl rfl rfl rfl (Sl rfl) (.cons rfl rfl rfl rfl (Sl rfl) (.cons rfl rfl rfl rfl (Sl rfl) .nil))))) (qM rfl rfl (Od rfl rfl (Lap rfl rfl (Sso rfl rfl (bytes_tk rfl)) rfl (Tl rfl) ty24 ty24 ty5 (by decide) (by first|omega|decide|assumption|(simp;done)|(simp;omega)) (by first|omega|decide|assumption|(simp;done)|(simp;omega)) (by first|decide|omega)) (qA rfl rfl (Nl ?_)))))))))))))))))))))))))))))
        rw [show [AV.base (.int .u8 (IntKind.u8.wrap (IntKind.i64.wrap (n.fl * 2 ^ (min (5:Int).toNat IntKind.i64.bits))))),AV.base (.int .u8 0),AV.base (.int .u8 0),AV.base (.int .u8 0)]++bytesC (addrL n.tg)=bytesC ([flB n,0,0,0]++addrL n.tg) from by rw [bytesC_app];rfl,show 4 + (addrL n.tg).length=([flB n,0,0,0]++addrL n.tg).length from by simp;omega]
        refine W.rename [(0,66)] 1 (T':=up mt 2 (some (.osl 0 0 (([flB n,0,0,0]++addrL n.tg).length) 1))) (H':=up mt 0 (some (bytesC ([flB n,0,0,0]++addrL n.tg)))) (by decide) ?_ ?_ ?_
        · (repeat' (first|exact all_mt|refine all_up ?_ ?_))<;>first|exact .inl ⟨rfl,rfl⟩|exact .inr ⟨rfl,fun _ h=>by cases h⟩|exact .inl ⟨rfl,by first|rfl|assumption|exact (bytesC_pure _)⟩
        · (repeat' (first|exact all_mt|refine all_up ?_ ?_))<;>first|exact ⟨rfl,_,rfl,.inr ⟨rfl,rfl⟩⟩|exact ⟨rfl,_,rfl,.inl rfl⟩|exact ⟨rfl,_,rfl,.inr ⟨rfl,by first|rfl|assumption|exact (bytesC_pure _)⟩⟩
        refine Wz ⟨.inl rfl,_,up mt 0 (some (bytesC ([flB n,0,0,0]++addrL n.tg))),Rc (Rt rfl) Rn,all_up rfl all_mt,?_⟩
        exact ⟨rfl,rfl⟩
/-- the bytes of a message, without their sum -/
def encL (n:Nb):List Int:=[IntKind.u8.wrap n.k,0,0,0]++fixL n++(if n.has then [optN n.k,1]++n.ln else [])
def sumL2 (c:Int) (l:List Int):List Int:=(l.set 2 (IntKind.u8.wrap (c.fdiv (2 ^ (min (8:Int).toNat IntKind.u16.bits))))).set 3 (IntKind.u8.wrap c)
def encN (n:Nb) (s d:Ad):Pk:=⟨s,d,58,255,sumL2 (chkF s d 58 (encL n)) (encL n)⟩
def okN (n:Nb) (s d:Ad):Bool:=validN n && (s.v6 && d.v6)
def zPk:Pk:=⟨zAd,zAd,0,0,[]⟩
theorem fixL_isB (n:Nb):IsB (fixL n):=by
  unfold fixL
  split
  · intro x hx;rw [List.eq_of_mem_replicate hx];decide
  · split
    · intro x hx;rw [List.eq_of_mem_replicate hx];decide
    · split
      · exact IsB.append (IsB.append (fun x hx=>by rw [List.eq_of_mem_replicate hx];decide) (addrL_isB _)) (addrL_isB _)
      · refine IsB.append (fun x hx=>?_) (addrL_isB _)
        have:=u8_bd (IntKind.i64.wrap (n.fl * 2 ^ (min (5:Int).toNat IntKind.i64.bits)))
        simp only [List.mem_cons,List.not_mem_nil,or_false] at hx
        rcases hx with rfl|rfl|rfl|rfl
        · exact this
        · decide
        · decide
        · decide
theorem fixL_len (n:Nb):(fixL n).length≤36:=by
  have:=addrL_pos n.tg
  unfold fixL
  split
  · simp
  · split
    · simp
    · split<;>simp<;>omega
theorem optN_bd (k:Int):0≤optN k∧optN k≤255:=by unfold optN;split<;>decide
theorem encL_isB {n:Nb} (hB:IsB n.ln):IsB (encL n):=by
  refine IsB.append (IsB.append (fun x hx=>?_) (fixL_isB n)) ?_
  · have:=u8_bd n.k
    simp only [List.mem_cons,List.not_mem_nil,or_false] at hx
    rcases hx with rfl|rfl|rfl|rfl
    · exact this
    · decide
    · decide
    · decide
  · split
    · refine IsB.append (fun x hx=>?_) hB
      have:=optN_bd n.k
      simp only [List.mem_cons,List.not_mem_nil,or_false] at hx
      rcases hx with rfl|rfl
      · exact this
      · decide
    · intro x hx;cases hx
theorem encL_len {n:Nb} (hl:n.ln.length=6):4≤(encL n).length∧(encL n).length≤48:=by
  have:=fixL_len n
  unfold encL
  split<;>simp [hl]<;>omega
theorem validN_tg {n:Nb} (h:validN n=true):validA n.tg.v6 n.tg.hi n.tg.lo=true:=by
  unfold validN at h
  simp only [Bool.and_eq_true] at h
  have h7:=h.2.2.2.2.2.2
  split at h7
  · simp only [Bool.and_eq_true] at h7
    unfold validA;rw [h7.1];rfl
  · rw [eqA_iff.1 h7];rfl
end Go.Proofs.YtcidmiacfjdepaaGreatDoor
namespace Go.Proofs.YtcidmiacfjdepaaGreatDoor
open Go.RowKit
theorem nbC_pure (n:Nb):(nbC n).all AV.pure1=true:=by
  unfold nbC adC
  rw [List.all_append,bytesC_pure];rfl
theorem tk_len {cs:List AV} {n:Nat} (h:cs.length=n * 1):Tk cs 0 (n * 1) cs:=by rw [← h];exact Tk.all cs
theorem sumL2_len (c:Int) (l:List Int):(sumL2 c l).length=l.length:=by simp [sumL2]
/-- what a message is encoded to -/
def encV (n:Nb) (s d:Ad):AV:=.tup [.agg (pkC (if okN n s d then encN n s d else zPk)),.base (.int .i64 (if okN n s d then 0 else 1))]
end Go.Proofs.YtcidmiacfjdepaaGreatDoor
