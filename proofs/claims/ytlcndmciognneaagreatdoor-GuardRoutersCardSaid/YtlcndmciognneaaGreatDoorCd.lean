/-
  A member with its ports, as the generator makes it. The database that the generator makes. A database that was made is right, and its ports are in order. A request for the address of a port goes to this port. Tables of a made database; bytes of requests. Addresses, bytes and stations zs frames are made from them. A message of address resolution in a frame. Reading a packet: the document. The bytes of a packet.
-/
import Derived.Test.YtlcndmciognneaaGreatDoorQj
import Derived.Test.YtlcndmciognneaaGreatDoorJr
import Derived.Test.YtlcndmciognneaaGreatDoorMab
namespace Go.Proofs.YtlcndmciognneaaGreatDoor
open Go.RowKit
theorem nextV_nil (at_:Nat) (n:Int):nextV [] at_ n=0:=by simp [nextV]
structure PGood (n:Int) (p:Prt):Prop where
 id:3 * n≤p.id∧p.id≤3 * n + 2
 sw:0≤p.sw∧p.sw≤3
 speed:1≤p.speed∧p.speed≤400
 macs:p.macs=[macF (100 + n)]∨p.macs=[macF (100 + n),macF (200 + n)]
 a:(p.v4=fourA n∧p.v6=⟨false,0,0⟩)∨(p.v4=⟨false,0,0⟩∧p.v6=sixA n)∨(p.v4=fourA n∧p.v6=sixA n)
structure MGood (l:List Int) (asn:Int) (name:ByteArray) (n:Int) (m:Mem):Prop where
 asn:m.asn=asn
 name:m.name=name
 set:m.set=emptyS∨m.set=asA∨m.set=asB
 max4:0≤m.max4∧m.max4≤19
 max6:0≤m.max6∧m.max6≤19
 np:1≤m.ports.length∧m.ports.length≤2
 ports:∀ (i:Nat) (h:i < m.ports.length),PGood (n + 1 + i) m.ports[i]
 nil:l=[]→∀ p,p∈m.ports→p.v4≠⟨false,0,0⟩
 one:l=[]→m.ports.length=1
def setAt (j:Nat):ByteArray:=if j=0 then emptyS else if j=1 then asA else asB
def speedAt (j:Nat):Int:=if j=0 then 1 else if j=1 then 10 else if j=2 then 100 else 400
theorem nat_of {x n:Int} (h:0≤x∧x < n):∃ j:Nat,x=(j:Int)∧(j:Int) < n:=⟨x.toNat,by omega,by omega⟩
set_option maxHeartbeats 2000000 in
theorem member_any (l:List Int) (at_:Nat) (asn:Int) (name:ByteArray) (n0:Int) (hn0:0≤n0∧n0≤100) (hl:l.length≤9223372036854775807) :
 ∃ v H',AFn Tryz.prog 90 2 [.own 0 0,.base (.int .i64 asn),.base (.string name),.own 1 0] (up (up mt 1 (some [.base (.int .i64 n0)])) 0 (some (deckC l at_))) v H' ∧
  ∃ (m:Mem) (at':Nat),MGood l asn name n0 m∧v=.agg (memC m)∧H'=up (up mt 1 (some [.base (.int .i64 (n0 + m.ports.length))])) 0 (some (deckC l at')):=by
 refine AFn.ex Tryz.func90 rfl rfl (Nat.le_of_ble_eq_true rfl)<|Wq<|qW 2 3 rfl<|qB rfl ty150<|Nl ?_
 obtain ⟨j3,hj3,hj3b⟩:=nat_of (nextV_bd l at_ 3 (by decide))
 have x4:=nextV_bd l (nextAt l at_) 20 (by decide)
 have x6:=nextV_bd l (nextAt l (nextAt l at_)) 20 (by decide)
 have n1:=next_any l at_ 3 (by decide) (by decide) hl
 rw [hj3] at n1
 have n2:=next_any l (nextAt l at_) 20 (by decide) (by decide) hl
 have n3:=next_any l (nextAt l (nextAt l at_)) 20 (by decide) (by decide) hl
 generalize nextV l (nextAt l at_) 20=m4 at *
 generalize nextV l (nextAt l (nextAt l at_)) 20=m6 at *
 generalize nextAt l (nextAt l (nextAt l at_))=a0 at *
 generalize nextAt l (nextAt l at_)=b1 at *
 generalize nextAt l at_=b0 at *
 have hset:([.base (.string ⟨#[]⟩),.base (.string ⟨#[65,83,45,65]⟩),.base (.string ⟨#[65,83,45,66]⟩)]:List AV)[0 + j3 * 1]?=some (.base (.string (setAt j3))):=by
  match j3,hj3b with
  | 0,_=>rfl
  | 1,_=>rfl
  | 2,_=>rfl
  | k + 3,h=>omega
 refine Wq<|Wd 7 21 (by decide) rfl mixed rfl<|qM rfl<|qM rfl<|Od rfl rfl (LO.buildSlice rfl ty152 ty9 (by decide) (by decide) (.cons rfl rfl rfl rfl (Sl rfl) (.cons rfl rfl rfl rfl (Sl rfl) (.cons rfl rfl rfl rfl (Sl rfl) .nil))))<|qM rfl<|Od rfl rfl (C1 (fr:=[]) rfl rfl (n1) fok49 (.own rfl rfl (.cons rfl (.pure rfl) .nil)) rfl rfl rfl (Cn _ _) (by decide) rfl)<|Od rfl rfl (Ia rfl rfl rfl rfl ty152 ty9 (by omega))<|Od rfl rfl (Ld rfl rfl rfl hset ty9 rfl)<|qM rfl<|Od rfl rfl (C1 (fr:=[]) rfl rfl (n2) fok49 (.own rfl rfl (.cons rfl (.pure rfl) .nil)) rfl rfl rfl (Cn _ _) (by decide) rfl)<|qM rfl<|Od rfl rfl (C1 (fr:=[]) rfl rfl (n3) fok49 (.own rfl rfl (.cons rfl (.pure rfl) .nil)) rfl rfl rfl (Cn _ _) (by decide) rfl)<|Od rfl rfl (Bs rfl ty150 (.cons rfl rfl rfl rfl (Sl rfl) (.cons rfl rfl rfl rfl (Sl rfl) (.cons rfl rfl rfl rfl (Sl rfl) (.cons rfl rfl rfl rfl (Sl rfl) (.cons rfl rfl rfl rfl (Sl rfl) .nil))))))<|qB rfl ty150<|qS rfl ty150 (Sl rfl) rfl<|Nl ⟨by kernel_rfl,?_⟩
 have hs3:setAt j3=emptyS∨setAt j3=asA∨setAt j3=asB:=by
  unfold setAt
  split
  ·exact .inl rfl
  ·split
   ·exact .inr (.inl rfl)
   ·exact .inr (.inr rfl)
 generalize setAt j3=st at *
 refine W.namec 21 (21 + 1) (q:=19) (j:=5) (sz:=10) rfl rfl (Sl rfl) (by decide) (by decide) (by decide) ?_
 have k0:=nextV_bd l a0 2 (by decide)
 refine Wq<|Wq<|qW 25 29 rfl<|qM rfl<|Od rfl rfl (C1 (fr:=[]) rfl rfl (next_any l a0 2 (by decide) (by decide) hl) fok49 (.own rfl rfl (.cons rfl (.pure rfl) .nil)) rfl rfl rfl (Cn _ _) (by decide) rfl)<|qZ rfl (iW _ (by omega))<|qA rfl<|Nl ?_
 have kz:l=[]→nextV l a0 2=0:=fun h=>by rw [h];exact nextV_nil _ _
 generalize nextV l a0 2=k at k0 kz
 generalize nextAt l a0=a1
 clear n1 n2 n3 hset hj3
 rw [show 1 + k=1 + k - (n0 - n0) from by omega]
 refine Wb<|W.rename [(0,0),(1,1),(2,2),(3,19),(4,21)] 5 (T':=up (up (up (up (up mt 0 (some (.own 0 0))) 3 (some (.own 1 0))) 8 (some (.own 2 0))) 9 (some (.own 3 0))) 10 (some (.base (.int .i64 (1 + k - (n0 - n0)))))) (H':=up (up (up (up (up mt 0 (some (deckC l a1))) 1 (some ([.base (.int .i64 n0)]))) 2 (some ([.base (.int .i64 0),.base (.string ⟨#[]⟩),.base (.string ⟨#[]⟩),.base (.int .i64 0),.base (.int .i64 0),.nils]))) 3 (some ([.base (.int .i64 asn),.base (.string name),.base (.string st),.base (.int .i64 m4),.base (.int .i64 m6),.osl 4 0 (([]:List Prt)).length 10]))) 4 (some (prtsC (([]:List Prt))))) (by decide) ?_ ?_ ?_
 ·exact aU (lR rfl) (aU (lI rfl) (aU (lI rfl) (aU (lI rfl) (aU (lI rfl) aM))))
 ·exact aU (kR rfl) (aU (kI rfl) (aU (kR rfl) (aU (kR rfl) (aU (kR rfl) aM))))
 refine W.loop_ind (α:=Int × List Prt × Nat) (fun x=>(2 + k - (x.1 - n0)).toNat) 5 (fun x=>up (up (up (up (up mt 0 (some (.own 0 0))) 3 (some (.own 1 0))) 8 (some (.own 2 0))) 9 (some (.own 3 0))) 10 (some (.base (.int .i64 (1 + k - (x.1 - n0)))))) (fun x=>up (up (up (up (up mt 0 (some (deckC l x.2.2))) 1 (some ([.base (.int .i64 x.1)]))) 2 (some ([.base (.int .i64 0),.base (.string ⟨#[]⟩),.base (.string ⟨#[]⟩),.base (.int .i64 0),.base (.int .i64 0),.nils]))) 3 (some ([.base (.int .i64 asn),.base (.string name),.base (.string st),.base (.int .i64 m4),.base (.int .i64 m6),.osl 4 0 x.2.1.length 10]))) 4 (some (prtsC x.2.1))) (fun x=>x.1=n0 + x.2.1.length∧(x.2.1.length:Int)≤1 + k∧(∀ (i:Nat) (h:i < x.2.1.length),PGood (n0 + 1 + i) x.2.1[i])∧(l=[]→∀ zz,zz∈x.2.1→zz.v4≠⟨false,0,0⟩)) (n0,(([]:List Prt)),a1) (show n0=n0 + (([]:List Prt)).length∧((([]:List Prt)).length:Int)≤1 + k∧(∀ (i:Nat) (h:i < (([]:List Prt)).length),PGood (n0 + 1 + i) (([]:List Prt))[i])∧(l=[]→∀ zz,zz∈(([]:List Prt))→zz.v4≠⟨false,0,0⟩) from ⟨by simp,by simp;omega,fun i h=>absurd h (Nat.not_lt_zero _),fun _ p hp=>absurd hp List.not_mem_nil⟩) ?_
 rintro ⟨n,ps,a⟩ hIA ihA
 try (dsimp only at hIA)
 try dsimp only
 obtain ⟨hn,hkl,hgd,hnil⟩:=hIA
 by_cases hc:0 < 1 + k - (n - n0)
 ·have g1:decide (1 + k - (n - n0) > 0)=true:=decide_eq_true hc
  have hpl:ps.length < 2:=by omega
  obtain ⟨N,hN⟩:∃ N,N=n + 1:=⟨_,rfl⟩
  refine Wq<|Wq<|qW 33 35 rfl<|qM rfl<|qGt rfl<|Nl<|Wt rfl ‹_›<|Wu<|Wq<|Wb<|Wq<|qW 39 45 rfl<|qM rfl<|Od rfl rfl (Nc rfl rfl)<|qL rfl ty3 rfl<|qZ rfl (iW _ (by omega))<|Od rfl rfl (Nc rfl rfl)<|qS rfl ty3 (Sl rfl) rfl<|Nl ?_
  rw [← hN]
  refine Wq<|qW 49 53 rfl<|qM rfl<|Od rfl rfl (Nc rfl rfl)<|qL rfl ty3 rfl<|qA rfl<|Nl ?_
  have y3:=nextV_bd l a 3 (by decide)
  have y4:=nextV_bd l (nextAt l a) 4 (by decide)
  obtain ⟨js,hjs,hjsb⟩:=nat_of (nextV_bd l (nextAt l (nextAt l a)) 4 (by decide))
  have n1:=next_any l a 3 (by decide) (by decide) hl
  have n2:=next_any l (nextAt l a) 4 (by decide) (by decide) hl
  have n3:=next_any l (nextAt l (nextAt l a)) 4 (by decide) (by decide) hl
  rw [hjs] at n3
  generalize nextV l a 3=id0 at *
  generalize nextV l (nextAt l a) 4=sw at *
  generalize nextAt l (nextAt l (nextAt l a))=b2 at *
  generalize nextAt l (nextAt l a)=b1 at *
  generalize nextAt l a=b0 at *
  have hsp:([.base (.int .i64 1),.base (.int .i64 10),.base (.int .i64 100),.base (.int .i64 400)]:List AV)[0 + js * 1]?=some (.base (.int .i64 (speedAt js))):=by
   match js,hjsb with
   | 0,_=>rfl
   | 1,_=>rfl
   | 2,_=>rfl
   | 3,_=>rfl
   | k + 4,h=>omega
  have hspb:1≤speedAt js∧speedAt js≤400:=by
   unfold speedAt
   repeat (first|omega|split)
  refine Wq<|Wd 57 76 (by decide) rfl mixed rfl<|qM rfl<|Od rfl rfl (LO.mul_in rfl rfl rfl (iW _ (by omega)))<|qM rfl<|Od rfl rfl (C1 (fr:=[]) rfl rfl (n1) fok49 (.own rfl rfl (.cons rfl (.pure rfl) .nil)) rfl rfl rfl (Cn _ _) (by decide) rfl)<|qZ rfl (iW _ (by omega))<|qM rfl<|Od rfl rfl (C1 (fr:=[]) rfl rfl (n2) fok49 (.own rfl rfl (.cons rfl (.pure rfl) .nil)) rfl rfl rfl (Cn _ _) (by decide) rfl)<|Od rfl rfl (LO.buildSlice rfl ty27 ty3 (by decide) (by decide) (.cons rfl rfl rfl rfl (Sl rfl) (.cons rfl rfl rfl rfl (Sl rfl) (.cons rfl rfl rfl rfl (Sl rfl) (.cons rfl rfl rfl rfl (Sl rfl) .nil)))))<|qM rfl<|Od rfl rfl (C1 (fr:=[]) rfl rfl (n3) fok49 (.own rfl rfl (.cons rfl (.pure rfl) .nil)) rfl rfl rfl (Cn _ _) (by decide) rfl)<|Od rfl rfl (Ia rfl rfl rfl rfl ty27 ty3 (by omega))<|Od rfl rfl (Ld rfl rfl rfl hsp ty3 rfl)<|qM rfl<|qZ rfl (iW _ (by omega))<|qY rfl (mac_any (100 + N)) fok130 rfl<|Od rfl rfl (LO.buildSlice rfl ty36 ty23 (by decide) (by decide) (.cons rfl rfl rfl rfl (Sl rfl) .nil))<|Od rfl rfl (Bs rfl ty157 (.cons rfl rfl rfl rfl (Sl rfl) (.cons rfl rfl rfl rfl (Sl rfl) (.cons rfl rfl rfl rfl (Sl rfl) (.cons rfl rfl rfl rfl (Sl rfl) .nil)))))<|qB rfl ty157<|qS rfl ty157 (Sl rfl) rfl<|Nl ⟨by kernel_rfl,?_⟩
  generalize speedAt js=spd at *
  clear n1 n2 n3 hsp hjs
  refine Wq<|W.joinK (α:=List (List Int) × Nat) 6 (fun x=>[(0,.own 0 0),(3,.own 1 0),(8,.own 2 0),(9,.own 3 0),(10,.base (.int .i64 (1 + k - (n - n0)))),(11,.base (.int .i64 N)),(12,.own 5 0)]) (fun x=>up (up (up (up (up (up mt 0 (some (deckC l x.2))) 1 (some ([.base (.int .i64 N)]))) 2 (some ([.base (.int .i64 0),.base (.string ⟨#[]⟩),.base (.string ⟨#[]⟩),.base (.int .i64 0),.base (.int .i64 0),.nils]))) 3 (some ([.base (.int .i64 asn),.base (.string name),.base (.string st),.base (.int .i64 m4),.base (.int .i64 m6),.osl 4 0 ps.length 10]))) 4 (some (prtsC ps))) 5 (some ([.base (.int .i64 (3 * N + id0)),.base (.int .i64 sw),.base (.int .i64 spd),.isl (macsC x.1) x.1.length,.base (.bool false),.base (.int .u64 0),.base (.int .u64 0),.base (.bool false),.base (.int .u64 0),.base (.int .u64 0)]))) (fun x=>x.1=[macF (100 + N)]∨x.1=[macF (100 + N),macF (200 + N)]) .nil ?_ ?_
  rotate_left
  rintro ⟨ms,b⟩ hIJ
  try (dsimp only at hIJ)
  try dsimp only [joinT,baseT,List.cons_append,List.nil_append]
  rotate_right
  ·
   have n4:=next_any l b2 4 (by decide) (by decide) hl
   generalize nextV l b2 4=r at *
   generalize nextAt l b2=b3 at *
   cases k1:(r == 3)
   ·
    refine Wq<|qW 80 83 rfl<|qM rfl<|Od rfl rfl (C1 (fr:=[]) rfl rfl (n4) fok49 (.own rfl rfl (.cons rfl (.pure rfl) .nil)) rfl rfl rfl (Cn _ _) (by decide) rfl)<|qE rfl<|Nl<|Wo rfl ‹_›<|Wu ?_
    intro yJ KJ hJ
    refine Wv (q:=74) (j:=3) (r:=72) rfl rfl (by decide) rfl (Tl rfl) rfl (Sl rfl)<|W.renameJ [(0,0),(1,1),(2,2),(3,3),(4,4),(5,74)] 6 (by decide) ?_ ?_ (hJ ([macF (100 + N)],b3) (show [macF (100 + N)]=[macF (100 + N)]∨[macF (100 + N)]=[macF (100 + N),macF (200 + N)] from .inl rfl))
    ·exact lC (lI rfl) (lC (lI rfl) (lC (lI rfl) (lC (lI rfl) (lC (lR rfl) (lC (lR rfl) (lC (lI rfl) lN))))))
    ·exact aU (kR rfl) (aU (kP rfl (prtsC_pure _)) (aU (kI rfl) (aU (kR rfl) (aU (kR rfl) (aU (kR rfl) aM)))))
   ·
    refine Wq<|qW 80 83 rfl<|qM rfl<|Od rfl rfl (C1 (fr:=[]) rfl rfl (n4) fok49 (.own rfl rfl (.cons rfl (.pure rfl) .nil)) rfl rfl rfl (Cn _ _) (by decide) rfl)<|qE rfl<|Nl<|Wt rfl ‹_›<|Wd 87 96 (by decide) rfl mixed rfl<|qF rfl ty157 rfl<|qL rfl ty36 rfl<|qM rfl<|qZ rfl (iW _ (by omega))<|qY rfl (mac_any (200 + N)) fok130 rfl<|Od rfl rfl (LO.buildSlice rfl ty36 ty23 (by decide) (by decide) (.cons rfl rfl rfl rfl (Sl rfl) .nil))<|Od rfl rfl (Lap rfl rfl (Sso rfl rfl (Tl rfl)) rfl (Tl rfl) ty36 ty36 ty23 (by decide) (by omega) (by omega) (by decide))<|qF rfl ty157 rfl<|qS rfl ty36 (Sl rfl) rfl<|Nl ⟨by kernel_rfl,?_⟩
    intro yJ KJ hJ
    refine Wv (q:=74) (j:=3) (r:=93) rfl rfl (by decide) rfl (Tl rfl) rfl (Sl rfl)<|W.renameJ [(0,0),(1,1),(2,2),(3,3),(4,4),(5,74)] 6 (by decide) ?_ ?_ (hJ ([macF (100 + N),macF (200 + N)],b3) (show [macF (100 + N),macF (200 + N)]=[macF (100 + N)]∨[macF (100 + N),macF (200 + N)]=[macF (100 + N),macF (200 + N)] from .inr rfl))
    ·exact lC (lI rfl) (lC (lI rfl) (lC (lI rfl) (lC (lI rfl) (lC (lR rfl) (lC (lR rfl) (lC (lI rfl) lN))))))
    ·exact aU (kR rfl) (aU (kP rfl (prtsC_pure _)) (aU (kI rfl) (aU (kR rfl) (aU (kR rfl) (aU (kR rfl) aM)))))
  refine Wq<|W.joinK (α:=Ad × Ad × Nat) 6 (fun x=>[(0,.own 0 0),(3,.own 1 0),(8,.own 2 0),(9,.own 3 0),(10,.base (.int .i64 (1 + k - (n - n0)))),(12,.own 5 0)]) (fun x=>up (up (up (up (up (up mt 0 (some (deckC l x.2.2))) 1 (some ([.base (.int .i64 N)]))) 2 (some ([.base (.int .i64 0),.base (.string ⟨#[]⟩),.base (.string ⟨#[]⟩),.base (.int .i64 0),.base (.int .i64 0),.nils]))) 3 (some ([.base (.int .i64 asn),.base (.string name),.base (.string st),.base (.int .i64 m4),.base (.int .i64 m6),.osl 4 0 ps.length 10]))) 4 (some (prtsC ps))) 5 (some (prtC ⟨3 * N + id0,sw,spd,ms,x.1,x.2.1⟩))) (fun x=>((x.1=fourA N∧x.2.1=(⟨false,0,0⟩:Ad))∨(x.1=(⟨false,0,0⟩:Ad)∧x.2.1=sixA N)∨(x.1=fourA N∧x.2.1=sixA N))∧(l=[]→x.1≠(⟨false,0,0⟩:Ad))) .nil ?_ ?_
  rotate_left
  rintro ⟨v4,v6,c⟩ hIK
  try (dsimp only at hIK)
  try dsimp only [joinT,baseT,List.cons_append,List.nil_append]
  rotate_right
  ·
   have n4:=next_any l b 4 (by decide) (by decide) hl
   have hz:l=[]→nextV l b 4=0:=fun h=>by rw [h];exact nextV_nil _ _
   generalize nextV l b 4=r at *
   generalize nextAt l b=b3 at *
   cases k1:(r == 0)
   ·
    cases k2:(r == 1)
    ·
     refine Wq<|qW 100 102 rfl<|qM rfl<|Od rfl rfl (C1 (fr:=[]) rfl rfl (n4) fok49 (.own rfl rfl (.cons rfl (.pure rfl) .nil)) rfl rfl rfl (Cn _ _) (by decide) rfl)<|Nl<|Wb<|Wq<|qW 106 108 rfl<|qE rfl<|qA rfl<|Nl<|Wo rfl ‹_›<|Wq<|qW 120 122 rfl<|qE rfl<|qA rfl<|Nl<|Wo rfl ‹_›<|qW 134 142 rfl<|qM rfl<|qY rfl (fourM_any N (by omega) (by omega)) fok95 rfl<|qM rfl<|qY rfl (sixM_any N (by omega) (by omega)) fok100 rfl<|qF rfl ty157 rfl<|qS rfl ty54 (Sl rfl) rfl<|qF rfl ty157 rfl<|qS rfl ty54 (Sl rfl) rfl<|Nl ?_
     intro yJ KJ hJ
     refine W.renameJ [(0,0),(1,1),(2,2),(3,3),(4,4),(5,5)] 6 (by decide) ?_ ?_ (hJ ((fourA N),(sixA N),b3) (show (((fourA N)=fourA N∧(sixA N)=(⟨false,0,0⟩:Ad))∨((fourA N)=(⟨false,0,0⟩:Ad)∧(sixA N)=sixA N)∨((fourA N)=fourA N∧(sixA N)=sixA N))∧(l=[]→(fourA N)≠(⟨false,0,0⟩:Ad)) from ⟨.inr (.inr ⟨rfl,rfl⟩),fun h=>by rw [hz h] at k1;cases k1⟩))
     ·exact lC (lI rfl) (lC (lI rfl) (lC (lI rfl) (lC (lI rfl) (lC (lR rfl) (lC (lI rfl) lN)))))
     ·exact aU (kR rfl) (aU (kP rfl (prtsC_pure _)) (aU (kI rfl) (aU (kR rfl) (aU (kR rfl) (aU (kR rfl) aM)))))
    ·
     refine Wq<|qW 100 102 rfl<|qM rfl<|Od rfl rfl (C1 (fr:=[]) rfl rfl (n4) fok49 (.own rfl rfl (.cons rfl (.pure rfl) .nil)) rfl rfl rfl (Cn _ _) (by decide) rfl)<|Nl<|Wb<|Wq<|qW 106 108 rfl<|qE rfl<|qA rfl<|Nl<|Wo rfl ‹_›<|Wq<|qW 120 122 rfl<|qE rfl<|qA rfl<|Nl<|Wt rfl ‹_›<|qW 126 130 rfl<|qM rfl<|qY rfl (sixM_any N (by omega) (by omega)) fok100 rfl<|qF rfl ty157 rfl<|qS rfl ty54 (Sl rfl) rfl<|Nl ?_
     intro yJ KJ hJ
     refine W.renameJ [(0,0),(1,1),(2,2),(3,3),(4,4),(5,5)] 6 (by decide) ?_ ?_ (hJ (((⟨false,0,0⟩:Ad)),(sixA N),b3) (show ((((⟨false,0,0⟩:Ad))=fourA N∧(sixA N)=(⟨false,0,0⟩:Ad))∨(((⟨false,0,0⟩:Ad))=(⟨false,0,0⟩:Ad)∧(sixA N)=sixA N)∨(((⟨false,0,0⟩:Ad))=fourA N∧(sixA N)=sixA N))∧(l=[]→((⟨false,0,0⟩:Ad))≠(⟨false,0,0⟩:Ad)) from ⟨.inr (.inl ⟨rfl,rfl⟩),fun h=>by rw [hz h] at k1;cases k1⟩))
     ·exact lC (lI rfl) (lC (lI rfl) (lC (lI rfl) (lC (lI rfl) (lC (lR rfl) (lC (lI rfl) lN)))))
     ·exact aU (kR rfl) (aU (kP rfl (prtsC_pure _)) (aU (kI rfl) (aU (kR rfl) (aU (kR rfl) (aU (kR rfl) aM)))))
   ·
    have hf:fourA N≠(⟨false,0,0⟩:Ad):=fun h=>by
     have:=congrArg Ad.lo h
     unfold fourA at this
     dsimp only at this
     omega
    refine Wq<|qW 100 102 rfl<|qM rfl<|Od rfl rfl (C1 (fr:=[]) rfl rfl (n4) fok49 (.own rfl rfl (.cons rfl (.pure rfl) .nil)) rfl rfl rfl (Cn _ _) (by decide) rfl)<|Nl<|Wb<|Wq<|qW 106 108 rfl<|qE rfl<|qA rfl<|Nl<|Wt rfl ‹_›<|qW 112 116 rfl<|qM rfl<|qY rfl (fourM_any N (by omega) (by omega)) fok95 rfl<|qF rfl ty157 rfl<|qS rfl ty54 (Sl rfl) rfl<|Nl ?_
    intro yJ KJ hJ
    refine W.renameJ [(0,0),(1,1),(2,2),(3,3),(4,4),(5,5)] 6 (by decide) ?_ ?_ (hJ ((fourA N),((⟨false,0,0⟩:Ad)),b3) (show (((fourA N)=fourA N∧((⟨false,0,0⟩:Ad))=(⟨false,0,0⟩:Ad))∨((fourA N)=(⟨false,0,0⟩:Ad)∧((⟨false,0,0⟩:Ad))=sixA N)∨((fourA N)=fourA N∧((⟨false,0,0⟩:Ad))=sixA N))∧(l=[]→(fourA N)≠(⟨false,0,0⟩:Ad)) from ⟨.inl ⟨rfl,rfl⟩,fun _=>hf⟩))
    ·exact lC (lI rfl) (lC (lI rfl) (lC (lI rfl) (lC (lI rfl) (lC (lR rfl) (lC (lI rfl) lN)))))
    ·exact aU (kR rfl) (aU (kP rfl (prtsC_pure _)) (aU (kI rfl) (aU (kR rfl) (aU (kR rfl) (aU (kR rfl) aM)))))
  have hJ:=‹ms=_∨_›
  obtain ⟨hva,hvn⟩:=‹((v4=_∧_)∨_)∧_›
  obtain ⟨p,hp⟩:∃ p:Prt,(⟨3 * N + id0,sw,spd,ms,v4,v6⟩:Prt)=p:=⟨_,rfl⟩
  rw [hp]
  have hpg:PGood N p:=by
   rw [← hp]
   exact ⟨by dsimp only;omega,by dsimp only;omega,hspb,hJ,hva⟩
  refine qW 146 153 rfl<|qF rfl ty150 rfl<|qL rfl ty148 rfl<|qG rfl ty157 rfl (Tl rfl)<|Od rfl rfl (LO.buildSlice rfl ty148 ty157 (by decide) (by decide) (.cons rfl rfl rfl rfl (Sl rfl) .nil))<|Od rfl rfl (Lap rfl rfl (Sso rfl rfl (Tl rfl)) rfl (prts_all rfl) ty148 ty148 ty157 (by decide) (by omega) (by omega) (by decide))<|qF rfl ty150 rfl<|qS rfl ty148 (Sl rfl) rfl<|Nl ?_
  rw [show prtsC ps++[.base (.int .i64 p.id),.base (.int .i64 p.sw),.base (.int .i64 p.speed),.isl (macsC p.macs) p.macs.length,.base (.bool p.v4.v6),.base (.int .u64 p.v4.hi),.base (.int .u64 p.v4.lo),.base (.bool p.v6.v6),.base (.int .u64 p.v6.hi),.base (.int .u64 p.v6.lo)]=prtsC (ps++[p]) from by simp [prtsC,prtC,adC],show ps.length + 1=(ps++[p]).length from by simp]
  refine qW 157 160 rfl<|qM rfl<|Od rfl rfl (LO.sub_in rfl rfl rfl (iW _ (by omega)))<|qA rfl<|Nl ?_
  rw [show 1 + k - (n - n0) - 1=1 + k - (N - n0) from by omega]
  have hgd':∀ (i:Nat) (h:i < (ps++[p]).length),PGood (n0 + 1 + i) (ps++[p])[i]:=fun i h=>by
   rw [List.length_append,List.length_singleton] at h
   rcases Nat.lt_or_ge i ps.length with h1|h1
   ·rw [List.getElem_append_left h1];exact hgd i h1
   ·obtain rfl:i=ps.length:=by omega
    rw [List.getElem_append_right (Nat.le_refl _)]
    simp only [Nat.sub_self,List.getElem_cons_zero]
    rw [show n0 + 1 + (ps.length:Int)=N from by omega]
    exact hpg
  have hnil':l=[]→∀ q,q∈ps++[p]→q.v4≠⟨false,0,0⟩:=fun h q hq=>by
   rcases List.mem_append.1 hq with h1|h1
   ·exact hnil h q h1
   ·simp at h1;rw [h1,← hp];exact hvn h
  refine WL.rename [(0,0),(1,1),(2,2),(3,3),(4,150)] 5 (by decide) ?_ ?_ (ihA (N,(ps++[p]),c) (show (2 + k - (N - n0)).toNat < (2 + k - (n - n0)).toNat from by omega) (show N=n0 + (ps++[p]).length∧((ps++[p]).length:Int)≤1 + k∧(∀ (i:Nat) (h:i < (ps++[p]).length),PGood (n0 + 1 + i) (ps++[p])[i])∧(l=[]→∀ zz,zz∈(ps++[p])→zz.v4≠⟨false,0,0⟩) from ⟨by rw [List.length_append,List.length_singleton];omega,by rw [List.length_append,List.length_singleton];omega,hgd',hnil'⟩))
  ·exact aU (lR rfl) (aU (lI rfl) (aU (lI rfl) (aU (lI rfl) (aU (lI rfl) aM))))
  ·exact aU (kP rfl (prtsC_pure _)) (aU (kI rfl) (aU (kR rfl) (aU (kR rfl) (aU (kR rfl) aM))))
 ·have g1:decide (1 + k - (n - n0) > 0)=false:=decide_eq_false hc
  refine Wq<|Wq<|qW 33 35 rfl<|qM rfl<|qGt rfl<|Nl<|Wo rfl ‹_›<|Wx ?_
  clear ihA
  refine Wv (q:=3) (j:=5) (r:=4) rfl rfl (by decide) rfl (prts_all rfl) (prtsC_pure _) (Sl rfl)<|Wq<|qW 164 166 rfl<|qG rfl ty150 rfl (Tl rfl)<|qS rfl ty150 (Sl rfl) rfl<|Nl<|Wz ⟨.inl rfl,_,up (up mt 1 (some [.base (.int .i64 n)])) 0 (some (deckC l a)),(Rc (Ra0 rfl rfl ty150 rfl (Tl rfl)) Rv),(aU rfl (aU rfl aM)),?_⟩
  exact ⟨⟨asn,name,st,m4,m6,ps⟩,a,⟨rfl,rfl,hs3,by dsimp only;omega,by dsimp only;omega,by dsimp only;omega,hgd,hnil,fun h=>by have:=kz h;dsimp only;omega⟩,rfl,by rw [hn]⟩
def srvN (j:Nat):ByteArray:=if j=0 then ⟨#[114,115,45,49]⟩ else ⟨#[114,115,45,50]⟩
def mbrN (j:Nat):ByteArray:=if j=0 then ⟨#[97]⟩ else if j=1 then ⟨#[98,45,50]⟩ else if j=2 then ⟨#[67,58,51]⟩ else if j=3 then ⟨#[100,101,108,116,97]⟩ else ⟨#[101]⟩
def cntP (l:List Mem):Int:=((l.flatMap (·.ports)).length:Nat)
structure DbMade (l:List Int) (d:Db):Prop where
 l4:d.lan4=lan4
 l6:d.lan6=lan6
 ns:d.servers.length≤2
 nm:2≤d.members.length∧d.members.length≤5
 srv:∀ (j:Nat) (h:j < d.servers.length),MGood l 65000 (srvN j) (cntP (d.servers.take j)) d.servers[j]
 mbr:∀ (j:Nat) (h:j < d.members.length),MGood l (1 + 7 * j) (mbrN j) (cntP (d.servers++d.members.take j)) d.members[j]
 zz:l=[]→d.servers.length=0∧d.members.length=2
theorem mems_all' {l:List Mem}:Tk (memsC l) 0 (l.length * 6) (memsC l):=mems_all rfl
theorem cntP_snoc (X:List Mem) (m:Mem):cntP (X++[m])=cntP X + m.ports.length:=by simp [cntP]
theorem take_snoc' {α:Type} {l:List α} {m:α} {j:Nat} (h:j≤l.length):(l++[m]).take j=l.take j:=List.take_append_of_le_length h
theorem good_snoc {P:Nat→List Mem→Mem→Prop} {ms:List Mem} {m:Mem} (h:∀ (j:Nat) (h:j < ms.length),P j (ms.take j) ms[j]) (hm:P ms.length ms m):∀ (j:Nat) (h:j < (ms++[m]).length),P j ((ms++[m]).take j) (ms++[m])[j]:=fun j hj=>by
 rw [List.length_append,List.length_singleton] at hj
 rw [take_snoc' (by omega)]
 rcases Nat.lt_or_ge j ms.length with h1|h1
 ·rw [List.getElem_append_left h1];exact h j h1
 ·obtain rfl:j=ms.length:=by omega
  rw [List.getElem_append_right (Nat.le_refl _),List.take_length]
  simpa using hm
set_option maxHeartbeats 2000000 in
theorem database_any (l:List Int) (at_:Nat) (hl:l.length≤9223372036854775807) :
 ∃ v H',AFn Tryz.prog 46 1 [.own 0 0] (up mt 0 (some (deckC l at_))) v H' ∧
  ∃ (d:Db) (at':Nat),DbMade l d∧v=.agg (dbC d)∧H'=up mt 0 (some (deckC l at')):=by
 refine AFn.ex Tryz.func46 rfl rfl (Nat.le_of_ble_eq_true rfl)<|Wq<|qW 1 2 rfl<|qB rfl ty105<|Nl<|Wq<|qW 6 11 rfl<|qY rfl (lan4_any) fok19 rfl<|qY rfl (lan6_any) fok20 rfl<|Od rfl rfl (Bs rfl ty105 (.cons rfl rfl rfl rfl (Sl rfl) (.cons rfl rfl rfl rfl (Sl rfl) .nil)))<|qB rfl ty105<|qS rfl ty105 (Sl rfl) rfl<|Nl<|Wq<|qW 15 17 rfl<|qB rfl ty3<|qS rfl ty3 (Sl rfl) rfl<|Nl<|W.namec 17 (17 + 1) (q:=9) (j:=8) (sz:=6) rfl rfl (Sl rfl) (by decide) (by decide) (by decide) ?_
 have cz:l=[]→nextV l at_ 3=0:=fun h=>by rw [h];exact nextV_nil _ _
 obtain ⟨c,hc,hcb⟩:=nat_of (nextV_bd l at_ 3 (by decide))
 rw [hc] at cz
 have n1:=next_any l at_ 3 (by decide) (by decide) hl
 rw [hc] at n1
 generalize nextAt l at_=a1 at *
 clear hc
 refine Wq<|Wq<|qW 21 24 rfl<|qM rfl<|Od rfl rfl (C1 (fr:=[]) rfl rfl (n1) fok49 (.own rfl rfl (.cons rfl (.pure rfl) .nil)) rfl rfl rfl (Cn _ _) (by decide) rfl)<|qM rfl<|Nl<|Wb<|W.rename [(0,0),(1,1),(2,9),(3,15),(4,17)] 5 (T':=up (up (up (up (up (up mt 0 (some (.own 0 0))) 2 (some (.own 1 0))) 3 (some (.own 2 0))) 4 (some (.own 3 0))) 11 (some (.base (.int .i64 (c:Int))))) 12 (some (.base (.int .i64 (0:Int))))) (H':=up (up (up (up (up mt 0 (some (deckC l a1))) 1 (some ([.base (.bool false),.base (.int .u64 0),.base (.int .u64 0),.base (.int .i64 0),.base (.bool false),.base (.int .u64 0),.base (.int .u64 0),.base (.int .i64 0),.nils,.nils]))) 2 (some (preC lan4++preC lan6++[.osl 4 0 (([]:List Mem)).length 6,.nils]))) 3 (some ([.base (.int .i64 (cntP (([]:List Mem))))]))) 4 (some (memsC (([]:List Mem))))) (by decide) ?_ ?_ ?_
 ·exact aU (lR rfl) (aU (lR rfl) (aU (lI rfl) (aU (lI rfl) (aU (lI rfl) (aU (lI rfl) aM)))))
 ·exact aU (kR rfl) (aU (kR rfl) (aU (kI rfl) (aU (kR rfl) (aU (kR rfl) aM))))
 refine W.loop_ind (α:=Nat × List Mem × Nat) (fun x=>c - x.1) 5 (fun x=>up (up (up (up (up (up mt 0 (some (.own 0 0))) 2 (some (.own 1 0))) 3 (some (.own 2 0))) 4 (some (.own 3 0))) 11 (some (.base (.int .i64 (c:Int))))) 12 (some (.base (.int .i64 (x.1:Int))))) (fun x=>up (up (up (up (up mt 0 (some (deckC l x.2.2))) 1 (some ([.base (.bool false),.base (.int .u64 0),.base (.int .u64 0),.base (.int .i64 0),.base (.bool false),.base (.int .u64 0),.base (.int .u64 0),.base (.int .i64 0),.nils,.nils]))) 2 (some (preC lan4++preC lan6++[.osl 4 0 x.2.1.length 6,.nils]))) 3 (some ([.base (.int .i64 (cntP x.2.1))]))) 4 (some (memsC x.2.1))) (fun x=>(x.1≤c∧x.2.1.length=x.1∧cntP x.2.1≤2 * x.1)∧∀ (jj:Nat) (h:jj < x.2.1.length),MGood l 65000 (srvN jj) (cntP (x.2.1.take jj)) x.2.1[jj]) (0,(([]:List Mem)),a1) (show (0≤c∧(([]:List Mem)).length=0∧cntP (([]:List Mem))≤2 * 0)∧∀ (jj:Nat) (h:jj < (([]:List Mem)).length),MGood l 65000 (srvN jj) (cntP ((([]:List Mem)).take jj)) (([]:List Mem))[jj] from ⟨⟨Nat.zero_le _,rfl,by decide⟩,fun j h=>absurd h (Nat.not_lt_zero _)⟩) ?_
 rintro ⟨i,ss,a⟩ hIA ihA
 try (dsimp only at hIA)
 try dsimp only
 obtain ⟨⟨hi,hlen,hct⟩,hgd⟩:=hIA
 by_cases hcc:i < c
 ·have g1:decide ((i:Int) < (c:Int))=true:=decide_eq_true (by omega)
  have hi2:i < 2:=by omega
  have hname:([.base (.string ⟨#[114,115,45,49]⟩),.base (.string ⟨#[114,115,45,50]⟩)]:List AV)[0 + i * 1]?=some (.base (.string (srvN i))):=by
   match i,hi2 with
   | 0,_=>rfl
   | 1,_=>rfl
  obtain ⟨vm,Hm,hm,m,a2,hmg,rfl,rfl⟩:=member_any l a 65000 (srvN i) (cntP ss) (by unfold cntP at hct ⊢;omega) hl
  have hgs:=good_snoc (P:=fun j x y=>MGood l 65000 (srvN j) (cntP x) y) hgd (by rw [hlen];exact hmg)
  generalize srvN i=nm at *
  refine Wq<|qW 28 29 rfl<|qK rfl<|Nl<|Wq<|Wt rfl ‹_›<|Wu<|Wq<|Wb<|Wq<|qW 33 35 rfl<|qM rfl<|qA rfl<|Nl<|Wd 39 51 (by decide) rfl mixed rfl<|qF rfl ty105 rfl<|qL rfl ty103 rfl<|qM rfl<|Od rfl rfl (LO.buildSlice rfl ty152 ty9 (by decide) (by decide) (.cons rfl rfl rfl rfl (Sl rfl) (.cons rfl rfl rfl rfl (Sl rfl) .nil)))<|qM rfl<|Od rfl rfl (Ia rfl rfl rfl rfl ty152 ty9 (by omega))<|Od rfl rfl (Ld rfl rfl rfl hname ty9 rfl)<|Od rfl rfl (LO.call2 (fr:=[]) (q0:=0) (q1:=3) rfl rfl hm fok90 (.own 0 rfl rfl (.cons rfl (.pure rfl) (.cons rfl (.pure rfl) (.own 1 rfl rfl .nil)))) (by decide) (by decide) (by decide) rfl rfl rfl rfl rfl rfl (Cn _ _) (Cn _ _) rfl)<|Od rfl rfl (LO.buildSlice rfl ty103 ty150 (by decide) (by decide) (.cons rfl rfl rfl rfl (Sl rfl) .nil))<|Od rfl rfl (Lap rfl rfl (Sso rfl rfl (Tl rfl)) rfl mems_all' ty103 ty103 ty150 (by decide) (by omega) (by omega) (by decide))<|qF rfl ty105 rfl<|qS rfl ty103 (Sl rfl) rfl<|Nl ⟨by kernel_rfl,?_⟩
  rw [show memsC ss++[.base (.int .i64 m.asn),.base (.string m.name),.base (.string m.set),.base (.int .i64 m.max4),.base (.int .i64 m.max6),.isl (prtsC m.ports) m.ports.length]=memsC (ss++[m]) from by simp [memsC,memC],show ss.length + 1=(ss++[m]).length from by simp]
  refine qW 55 57 rfl<|qZ rfl (iW _ (by omega))<|qM rfl<|Nl ?_
  rw [← cntP_snoc]
  refine WL.rename [(0,0),(1,1),(2,2),(3,3),(4,48)] 5 (by decide) ?_ ?_ (ihA ((i + 1),(ss++[m]),a2) (show c - (i + 1) < c - i from by omega) (show ((i + 1)≤c∧(ss++[m]).length=(i + 1)∧cntP (ss++[m])≤2 * (i + 1))∧∀ (jj:Nat) (h:jj < (ss++[m]).length),MGood l 65000 (srvN jj) (cntP ((ss++[m]).take jj)) (ss++[m])[jj] from ⟨⟨by omega,by rw [List.length_append,List.length_singleton];omega,by rw [cntP_snoc];have:=hmg.np;omega⟩,hgs⟩))
  ·exact aU (lR rfl) (aU (lR rfl) (aU (lI rfl) (aU (lI rfl) (aU (lI rfl) (aU (lI rfl) aM)))))
  ·exact aU (kP rfl (memsC_pure _)) (aU (kR rfl) (aU (kI rfl) (aU (kR rfl) (aU (kR rfl) aM))))
 ·have g1:decide ((i:Int) < (c:Int))=false:=decide_eq_false (by omega)
  refine Wq<|qW 28 29 rfl<|qK rfl<|Nl<|Wq<|Wo rfl ‹_›<|Wx ?_
  clear ihA
  refine Wv (q:=2) (j:=8) (r:=4) rfl rfl (by decide) rfl (mems_all rfl) (memsC_pure _) (Sl rfl) ?_
  have hss:ss.length≤2:=by omega
  have ez:l=[]→nextV l a 4=0:=fun h=>by rw [h];exact nextV_nil _ _
  obtain ⟨e,he,heb⟩:=nat_of (nextV_bd l a 4 (by decide))
  rw [he] at ez
  have n2:=next_any l a 4 (by decide) (by decide) hl
  rw [he] at n2
  generalize nextAt l a=a3 at *
  clear he
  refine Wq<|Wq<|qW 61 65 rfl<|qM rfl<|Od rfl rfl (C1 (fr:=[]) rfl rfl (n2) fok49 (.own rfl rfl (.cons rfl (.pure rfl) .nil)) rfl rfl rfl (Cn _ _) (by decide) rfl)<|qZ rfl (iW _ (by omega))<|qM rfl<|Nl<|W.namec 65 (65 + 1) (q:=2) (j:=9) (sz:=6) rfl rfl (Sl rfl) (by decide) (by decide) (by decide) ?_
  rw [show cntP ss=cntP (ss++[]) from by rw [List.append_nil]]
  refine Wb<|W.rename [(0,0),(1,1),(2,2),(3,3),(4,65)] 5 (T':=up (up (up (up (up (up mt 0 (some (.own 0 0))) 2 (some (.own 1 0))) 3 (some (.own 2 0))) 4 (some (.own 3 0))) 29 (some (.base (.int .i64 (2 + (e:Int)))))) 30 (some (.base (.int .i64 (0:Int))))) (H':=up (up (up (up (up mt 0 (some (deckC l a3))) 1 (some ([.base (.bool false),.base (.int .u64 0),.base (.int .u64 0),.base (.int .i64 0),.base (.bool false),.base (.int .u64 0),.base (.int .u64 0),.base (.int .i64 0),.nils,.nils]))) 2 (some (preC lan4++preC lan6++[.isl (memsC ss) ss.length,.osl 4 0 (([]:List Mem)).length 6]))) 3 (some ([.base (.int .i64 (cntP (ss++(([]:List Mem)))))]))) 4 (some (memsC (([]:List Mem))))) (by decide) ?_ ?_ ?_
  ·exact aU (lR rfl) (aU (lR rfl) (aU (lI rfl) (aU (lI rfl) (aU (lI rfl) (aU (lI rfl) aM)))))
  ·exact aU (kR rfl) (aU (kR rfl) (aU (kI rfl) (aU (kR rfl) (aU (kR rfl) aM))))
  refine W.loop_ind (α:=Nat × List Mem × Nat) (fun x=>2 + e - x.1) 5 (fun x=>up (up (up (up (up (up mt 0 (some (.own 0 0))) 2 (some (.own 1 0))) 3 (some (.own 2 0))) 4 (some (.own 3 0))) 29 (some (.base (.int .i64 (2 + (e:Int)))))) 30 (some (.base (.int .i64 (x.1:Int))))) (fun x=>up (up (up (up (up mt 0 (some (deckC l x.2.2))) 1 (some ([.base (.bool false),.base (.int .u64 0),.base (.int .u64 0),.base (.int .i64 0),.base (.bool false),.base (.int .u64 0),.base (.int .u64 0),.base (.int .i64 0),.nils,.nils]))) 2 (some (preC lan4++preC lan6++[.isl (memsC ss) ss.length,.osl 4 0 x.2.1.length 6]))) 3 (some ([.base (.int .i64 (cntP (ss++x.2.1)))]))) 4 (some (memsC x.2.1))) (fun x=>(x.1≤2 + e∧x.2.1.length=x.1∧cntP (ss++x.2.1)≤4 + 2 * x.1)∧∀ (jj:Nat) (h:jj < x.2.1.length),MGood l (1 + 7 * jj) (mbrN jj) (cntP (ss++x.2.1.take jj)) x.2.1[jj]) (0,(([]:List Mem)),a3) (show (0≤2 + e∧(([]:List Mem)).length=0∧cntP (ss++(([]:List Mem)))≤4 + 2 * 0)∧∀ (jj:Nat) (h:jj < (([]:List Mem)).length),MGood l (1 + 7 * jj) (mbrN jj) (cntP (ss++(([]:List Mem)).take jj)) (([]:List Mem))[jj] from ⟨⟨Nat.zero_le _,rfl,by rw [List.append_nil];omega⟩,fun j h=>absurd h (Nat.not_lt_zero _)⟩) ?_
  rintro ⟨i2,mm,b⟩ hIB ihB
  try (dsimp only at hIB)
  try dsimp only
  obtain ⟨⟨hi2,hlen2,hct2⟩,hgd2⟩:=hIB
  by_cases hcc2:i2 < 2 + e
  ·have g2:decide ((i2:Int) < 2 + (e:Int))=true:=decide_eq_true (by omega)
   have hi5:i2 < 5:=by omega
   have hname:([.base (.string ⟨#[97]⟩),.base (.string ⟨#[98,45,50]⟩),.base (.string ⟨#[67,58,51]⟩),.base (.string ⟨#[100,101,108,116,97]⟩),.base (.string ⟨#[101]⟩)]:List AV)[0 + i2 * 1]?=some (.base (.string (mbrN i2))):=by
    match i2,hi5 with
    | 0,_=>rfl
    | 1,_=>rfl
    | 2,_=>rfl
    | 3,_=>rfl
    | 4,_=>rfl
   obtain ⟨vm,Hm,hm,m,a4,hmg,rfl,rfl⟩:=member_any l b (1 + 7 * (i2:Int)) (mbrN i2) (cntP (ss++mm)) (by unfold cntP at hct2 ⊢;omega) hl
   have hgs:=good_snoc (P:=fun j x y=>MGood l (1 + 7 * (j:Int)) (mbrN j) (cntP (ss++x)) y) hgd2 (by rw [hlen2];exact hmg)
   generalize mbrN i2=nm at *
   refine Wq<|qW 69 70 rfl<|qK rfl<|Nl<|Wq<|Wt rfl ‹_›<|Wu<|Wq<|Wb<|Wq<|qW 74 76 rfl<|qM rfl<|qA rfl<|Nl<|Wd 80 95 (by decide) rfl mixed rfl<|qF rfl ty105 rfl<|qL rfl ty103 rfl<|qM rfl<|qM rfl<|Od rfl rfl (LO.mul_in rfl rfl rfl (iW _ (by omega)))<|qZ rfl (iW _ (by omega))<|Od rfl rfl (LO.buildSlice rfl ty152 ty9 (by decide) (by decide) (.cons rfl rfl rfl rfl (Sl rfl) (.cons rfl rfl rfl rfl (Sl rfl) (.cons rfl rfl rfl rfl (Sl rfl) (.cons rfl rfl rfl rfl (Sl rfl) (.cons rfl rfl rfl rfl (Sl rfl) .nil))))))<|qM rfl<|Od rfl rfl (Ia rfl rfl rfl rfl ty152 ty9 (by omega))<|Od rfl rfl (Ld rfl rfl rfl hname ty9 rfl)<|Od rfl rfl (LO.call2 (fr:=[]) (q0:=0) (q1:=3) rfl rfl hm fok90 (.own 0 rfl rfl (.cons rfl (.pure rfl) (.cons rfl (.pure rfl) (.own 1 rfl rfl .nil)))) (by decide) (by decide) (by decide) rfl rfl rfl rfl rfl rfl (Cn _ _) (Cn _ _) rfl)<|Od rfl rfl (LO.buildSlice rfl ty103 ty150 (by decide) (by decide) (.cons rfl rfl rfl rfl (Sl rfl) .nil))<|Od rfl rfl (Lap rfl rfl (Sso rfl rfl (Tl rfl)) rfl mems_all' ty103 ty103 ty150 (by decide) (by omega) (by omega) (by decide))<|qF rfl ty105 rfl<|qS rfl ty103 (Sl rfl) rfl<|Nl ⟨by kernel_rfl,?_⟩
   rw [show memsC mm++[.base (.int .i64 m.asn),.base (.string m.name),.base (.string m.set),.base (.int .i64 m.max4),.base (.int .i64 m.max6),.isl (prtsC m.ports) m.ports.length]=memsC (mm++[m]) from by simp [memsC,memC],show mm.length + 1=(mm++[m]).length from by simp]
   refine qW 99 101 rfl<|qZ rfl (iW _ (by omega))<|qM rfl<|Nl ?_
   rw [← cntP_snoc,show ss++mm++[m]=ss++(mm++[m]) from List.append_assoc ..]
   refine WL.rename [(0,0),(1,1),(2,2),(3,3),(4,92)] 5 (by decide) ?_ ?_ (ihB ((i2 + 1),(mm++[m]),a4) (show 2 + e - (i2 + 1) < 2 + e - i2 from by omega) (show ((i2 + 1)≤2 + e∧(mm++[m]).length=(i2 + 1)∧cntP (ss++(mm++[m]))≤4 + 2 * (i2 + 1))∧∀ (jj:Nat) (h:jj < (mm++[m]).length),MGood l (1 + 7 * jj) (mbrN jj) (cntP (ss++(mm++[m]).take jj)) (mm++[m])[jj] from ⟨⟨by omega,by rw [List.length_append,List.length_singleton];omega,by rw [← List.append_assoc,cntP_snoc];have:=hmg.np;omega⟩,hgs⟩))
   ·exact aU (lR rfl) (aU (lR rfl) (aU (lI rfl) (aU (lI rfl) (aU (lI rfl) (aU (lI rfl) aM)))))
   ·exact aU (kP rfl (memsC_pure _)) (aU (kR rfl) (aU (kI rfl) (aU (kR rfl) (aU (kR rfl) aM))))
  ·have g2:decide ((i2:Int) < 2 + (e:Int))=false:=decide_eq_false (by omega)
   refine Wq<|qW 69 70 rfl<|qK rfl<|Nl<|Wq<|Wo rfl ‹_›<|Wx ?_
   clear ihB
   refine Wv (q:=2) (j:=9) (r:=4) rfl rfl (by decide) rfl (mems_all rfl) (memsC_pure _) (Sl rfl)<|Wq<|qW 105 107 rfl<|qG rfl ty105 rfl (Tl rfl)<|qS rfl ty105 (Sl rfl) rfl<|Nl<|Wz ⟨.inl rfl,_,up mt 0 (some (deckC l b)),(Rc (Ra0 rfl rfl ty105 rfl (Tl rfl)) Rv),(aU rfl aM),?_⟩
   exact ⟨⟨lan4,lan6,ss,mm⟩,b,⟨rfl,rfl,hss,by dsimp only;omega,hgd,hgd2,fun h=>by have h1:=cz h;have h2:=ez h;dsimp only;omega⟩,rfl,rfl⟩
theorem at_all {l:List Prt} {Q:Prt→Prop} (h:∀ (i:Nat) (h:i < l.length),Q l[i]):∀ p,p∈l→Q p:=fun p hp=>by
 obtain ⟨i,hi,rfl⟩:=List.getElem_of_mem hp
 exact h i hi
theorem flat_good:∀ (A:List Mem) (c:Int),(∀ (j:Nat) (h:j < A.length) (i:Nat) (hi:i < A[j].ports.length),PGood (c + cntP (A.take j) + 1 + i) A[j].ports[i])→∀ (i:Nat) (h:i < (A.flatMap (·.ports)).length),PGood (c + 1 + i) (A.flatMap (·.ports))[i]:=by
 intro A
 induction A with
 | nil=>intro c _ i h;simp at h
 | cons x A ih =>
  intro c hg i h
  have hx:=hg 0 (by simp)
  simp only [List.getElem_cons_zero,List.take_zero] at hx
  have hr:=ih (c + x.ports.length) fun j hj i hi=>by
   have:=hg (j + 1) (by simpa using hj) i (by simpa using hi)
   simp only [List.getElem_cons_succ,List.take_succ_cons] at this
   rw [show c + (x.ports.length:Int) + cntP (A.take j) + 1 + i=c + cntP (x::A.take j) + 1 + i from by unfold cntP;simp;omega]
   exact this
  simp only [List.flatMap_cons] at h ⊢
  rcases Nat.lt_or_ge i x.ports.length with h1|h1
  ·rw [List.getElem_append_left h1]
   have:=hx i h1
   rwa [show c + cntP [] + 1 + (i:Int)=c + 1 + i from by unfold cntP;simp] at this
  ·rw [List.getElem_append_right h1]
   rw [List.length_append] at h
   have:=hr (i - x.ports.length) (by omega)
   rwa [show c + (x.ports.length:Int) + 1 + ((i - x.ports.length:Nat):Int)=c + 1 + i from by omega] at this
theorem flatP_le:∀ (A:List Mem),(∀ m,m∈A→m.ports.length≤2)→(A.flatMap (·.ports)).length≤2 * A.length:=by
 intro A
 induction A with
 | nil=>intro _;simp
 | cons x A ih =>
  intro h
  have:=ih fun m hm=>h m (by simp [hm])
  have:=h x (by simp)
  rw [List.flatMap_cons,List.length_append,List.length_cons]
  omega
structure DbFine (l:List Int) (d:Db):Prop where
 ok:DbOk d
 once:Once d
 ports:portsOf d=allP d
 len:2≤(allP d).length∧(allP d).length≤14
 good:∀ (i:Nat) (h:i < (allP d).length),PGood (1 + i) (allP d)[i]
 nil:l=[]→∀ p,p∈allP d→p.v4≠⟨false,0,0⟩
 two:l=[]→(allP d).length=2
theorem DbMade.mem {l:List Int} {d:Db} (h:DbMade l d):∀ (j:Nat) (hj:j < (d.servers++d.members).length),∃ asn name,MGood l asn name (cntP ((d.servers++d.members).take j)) (d.servers++d.members)[j]∧(asn=65000∨∃ k:Nat,k < 5∧asn=1 + 7 * (k:Int))∧NameOk name:=fun j hj=>by
 rw [List.length_append] at hj
 have hns:=h.ns
 have hnm:=h.nm
 rcases Nat.lt_or_ge j d.servers.length with h1|h1
 ·rw [List.getElem_append_left h1,List.take_append_of_le_length (by omega)]
  refine ⟨_,_,h.srv j h1,.inl rfl,?_⟩
  match j,(show j < 2 by omega) with
  | 0,_=>exact .of (by decide +kernel)
  | 1,_=>exact .of (by decide +kernel)
 ·rw [List.getElem_append_right h1]
  have:=h.mbr (j - d.servers.length) (by omega)
  refine ⟨_,mbrN (j - d.servers.length),?_,.inr ⟨j - d.servers.length,by omega,rfl⟩,?_⟩
  ·rw [List.take_append,List.take_of_length_le h1]
   exact this
  ·generalize hk:j - d.servers.length=k
   match k,(show k < 5 by omega) with
   | 0,_=>exact .of (by decide +kernel)
   | 1,_=>exact .of (by decide +kernel)
   | 2,_=>exact .of (by decide +kernel)
   | 3,_=>exact .of (by decide +kernel)
   | 4,_=>exact .of (by decide +kernel)
theorem macF_small {n:Int} (h0:0≤n) (h1:n≤255):macF n=[2,0,0,0,0,n]:=by
 unfold macF
 rw [show (2:Int) ^ (min (24:Int).toNat IntKind.i64.bits)=16777216 from by decide,show (2:Int) ^ (min (16:Int).toNat IntKind.i64.bits)=65536 from by decide,show (2:Int) ^ (min (8:Int).toNat IntKind.i64.bits)=256 from by decide]
 rw [Int.fdiv_eq_ediv_of_nonneg _ (by decide),Int.fdiv_eq_ediv_of_nonneg _ (by decide),Int.fdiv_eq_ediv_of_nonneg _ (by decide)]
 rw [show n / 16777216=0 from by omega,show n / 65536=0 from by omega,show n / 256=0 from by omega]
 rw [show IntKind.u8.wrap n=n from by rw [IntKind.wrap_u8'];omega]
 rfl
theorem PGood.mac {n:Int} {p:Prt} (h:PGood n p) (h0:1≤n) (h1:n≤14):∀ m,m∈p.macs→m=[2,0,0,0,0,100 + n]∨m=[2,0,0,0,0,200 + n]:=fun m hm=>by
 rcases h.macs with e|e<;>rw [e] at hm<;>simp at hm
 ·rw [hm];exact .inl (macF_small (by omega) (by omega))
 ·rcases hm with e|e<;>rw [e]
  ·exact .inl (macF_small (by omega) (by omega))
  ·exact .inr (macF_small (by omega) (by omega))
theorem PGood.len {n:Int} {p:Prt} (h:PGood n p):1≤p.macs.length∧p.macs.length≤2:=by
 rcases h.macs with e|e<;>rw [e]<;>simp
theorem PGood.ok {n:Int} {p:Prt} (h:PGood n p) (h0:1≤n) (h1:n≤14):PrtOk p:=by
 have hid:=h.id
 have hsw:=h.sw
 have hspd:=h.speed
 have hf:(⟨n.toNat,by omega⟩:Fin 15).val=n.toNat:=rfl
 have en:((n.toNat:Nat):Int)=n:=by omega
 refine ⟨by omega,by omega,by omega,h.len,fun m hm=>?_,?_,?_,?_⟩
 ·rcases h.mac h0 h1 m hm with e|e<;>rw [e]
  ·exact ⟨rfl,fun x hx=>by simp at hx;omega,rfl,fun h=>by injection h with h _;cases h⟩
  ·exact ⟨rfl,fun x hx=>by simp at hx;omega,rfl,fun h=>by injection h with h _;cases h⟩
 ·rcases h.a with ⟨e,_⟩|⟨e,_⟩|⟨e,_⟩
  ·exact .inr ⟨⟨n.toNat,by omega⟩,by rw [e];dsimp only;rw [en]⟩
  ·exact .inl e
  ·exact .inr ⟨⟨n.toNat,by omega⟩,by rw [e];dsimp only;rw [en]⟩
 ·rcases h.a with ⟨_,e⟩|⟨_,e⟩|⟨_,e⟩
  ·exact .inl e
  ·exact .inr ⟨⟨n.toNat,by omega⟩,by rw [e];dsimp only;rw [en]⟩
  ·exact .inr ⟨⟨n.toNat,by omega⟩,by rw [e];dsimp only;rw [en]⟩
 ·intro e4 e6
  rcases h.a with ⟨e,_⟩|⟨_,e⟩|⟨_,e⟩
  ·rw [e] at e4
   have:=congrArg Ad.lo e4
   unfold fourA at this
   dsimp only at this
   omega
  ·rw [e] at e6
   have:=congrArg Ad.lo e6
   unfold sixA at this
   dsimp only at this
   omega
  ·rw [e] at e6
   have:=congrArg Ad.lo e6
   unfold sixA at this
   dsimp only at this
   omega
theorem PGood.ad {n:Int} {p:Prt} (h:PGood n p):∀ a,a∈adsP p→a=fourA n∨a=sixA n:=fun a ha=>by
 unfold adsP at ha
 rcases List.mem_append.1 ha with ha|ha
 ·split at ha
  ·simp at ha
  ·rename_i hz
   simp at ha
   rcases h.a with ⟨e,_⟩|⟨e,_⟩|⟨e,_⟩
   ·exact .inl (ha.trans e)
   ·rw [e] at hz;exact absurd rfl hz
   ·exact .inl (ha.trans e)
 ·split at ha
  ·simp at ha
  ·rename_i hz
   simp at ha
   rcases h.a with ⟨_,e⟩|⟨_,e⟩|⟨_,e⟩
   ·rw [e] at hz;exact absurd rfl hz
   ·exact .inr (ha.trans e)
   ·exact .inr (ha.trans e)
theorem nodup_flat {α β:Type} {f:α→List β} {l:List α} (h1:∀ x,x∈l→(f x).Nodup) (h2:l.Pairwise fun a b=>∀ x,x∈f a→x ∉ f b):(l.flatMap f).Nodup:=by
 induction l with
 | nil=>simp
 | cons x l ih =>
  rw [List.pairwise_cons] at h2
  rw [List.flatMap_cons,List.nodup_append]
  refine ⟨h1 x (by simp),ih (fun y hy=>h1 y (by simp [hy])) h2.2,fun a ha b hb e=>?_⟩
  subst e
  obtain ⟨y,hy,hyb⟩:=List.mem_flatMap.1 hb
  exact h2.1 y hy a ha hyb
theorem tags_ne {n m:Int} {p q:Prt} (hp:PGood n p) (hq:PGood m q) (h0:1≤n) (h1:n < m) (h2:m≤14):(∀ x,x∈p.macs→x ∉ q.macs)∧(∀ a,a∈adsP p→a ∉ adsP q):=by
 constructor
 ·intro x hx hy
  rcases hp.mac h0 (by omega) x hx with e|e<;>rcases hq.mac (by omega) h2 x hy with e2|e2<;>rw [e] at e2<;>simp at e2<;>omega
 ·intro a ha hb
  rcases hp.ad a ha with e|e<;>rcases hq.ad a hb with e2|e2<;>rw [e] at e2<;>simp [fourA,sixA] at e2<;>omega
theorem DbMade.fine {l:List Int} {d:Db} (h:DbMade l d):DbFine l d:=by
 have hns:=h.ns
 have hnm:=h.nm
 have hmem:=h.mem
 obtain ⟨A,hA⟩:∃ A,A=d.servers++d.members:=⟨_,rfl⟩
 have hAl:A.length=d.servers.length + d.members.length:=by rw [hA,List.length_append]
 have hm:∀ m,m∈d.servers++d.members→∃ asn name n,MGood l asn name n m∧(asn=65000∨∃ k:Nat,k < 5∧asn=1 + 7 * (k:Int))∧NameOk name:=fun m hm=>by
  obtain ⟨j,hj,rfl⟩:=List.getElem_of_mem hm
  obtain ⟨asn,name,h1,h2,h3⟩:=hmem j hj
  exact ⟨asn,name,_,h1,h2,h3⟩
 have hgood:∀ (i:Nat) (h:i < (allP d).length),PGood (1 + i) (allP d)[i]:=fun i hi=>by
  have:=flat_good (d.servers++d.members) 0 (fun j hj i hi=>by
   obtain ⟨_,_,h1,_⟩:=hmem j hj
   have:=h1.ports i hi
   rwa [Int.zero_add]) i hi
  rwa [Int.zero_add] at this
 have hle:(allP d).length≤14:=by
  have:=flatP_le (d.servers++d.members) (fun m hx=>by obtain ⟨_,_,_,h1,_⟩:=hm m hx;exact h1.np.2)
  unfold allP
  rw [List.length_append] at this
  omega
 have hge:2≤(allP d).length:=by
  have key:∀ L:List Mem,(∀ m,m∈L→1≤m.ports.length)→L.length≤(L.flatMap (·.ports)).length:=by
   intro L
   induction L with
   | nil=>intro _;simp
   | cons x L ih =>
    intro h
    have:=ih fun m hm=>h m (by simp [hm])
    have:=h x (by simp)
    rw [List.flatMap_cons,List.length_append,List.length_cons]
    omega
  have:=key (d.servers++d.members) (fun m hx=>by obtain ⟨_,_,_,h1,_⟩:=hm m hx;exact h1.np.1)
  unfold allP
  rw [List.length_append] at this
  omega
 have hpok:∀ p,p∈allP d→PrtOk p:=at_all fun i hi=>(hgood i hi).ok (by omega) (by omega)
 have hsort:(allP d).Pairwise fun a b=>a.id < b.id:=by
  rw [List.pairwise_iff_getElem]
  intro i j hi hj hij
  have h1:=(hgood i hi).id
  have h2:=(hgood j hj).id
  omega
 have hid:∀ p,p∈allP d→1≤p.id∧p.id≤999:=fun p hp=>(hpok p hp).id
 have hdis:(allP d).Pairwise fun p q=>(∀ x,x∈p.macs→x ∉ q.macs)∧(∀ a,a∈adsP p→a ∉ adsP q):=by
  rw [List.pairwise_iff_getElem]
  intro i j hi hj hij
  exact tags_ne (hgood i hi) (hgood j hj) (by omega) (by omega) (by omega)
 have hmo:∀ m,m∈d.servers++d.members→MemOk m:=fun m hx=>by
  obtain ⟨asn,name,n,h1,h2,h3⟩:=hm m hx
  have e1:=h1.asn
  have e2:=h1.name
  have e3:=h1.max4
  have e4:=h1.max6
  have e5:=h1.np
  refine ⟨?_,e2 ▸ h3,h1.set,by omega,by omega,by omega,fun p hp=>hpok p (List.mem_flatMap.2 ⟨m,hx,hp⟩)⟩
  rcases h2 with h2|⟨k,hk,h2⟩<;>omega
 have hdb:DbOk d:=⟨h.l4,h.l6,by omega,by omega,hmo⟩
 have hsn:d.servers.map (·.name)=(List.range d.servers.length).map srvN:=by
  refine List.ext_getElem (by simp) fun i h1 h2=>?_
  simp at h1 ⊢
  exact (h.srv i h1).name
 have hmn:d.members.map (·.name)=(List.range d.members.length).map mbrN:=by
  refine List.ext_getElem (by simp) fun i h1 h2=>?_
  simp at h1 ⊢
  exact (h.mbr i h1).name
 have hma:d.members.map (·.asn)=(List.range d.members.length).map fun (j:Nat)=>1 + 7 * (j:Int):=by
  refine List.ext_getElem (by simp) fun i h1 h2=>?_
  simp at h1 ⊢
  exact (h.mbr i h1).asn
 have hsa:∀ s,s∈d.servers→s.asn=65000:=fun s hs=>by
  obtain ⟨j,hj,rfl⟩:=List.getElem_of_mem hs
  exact (h.srv j hj).asn
 have hmas:∀ s,s∈d.members→s.asn≤29:=fun s hs=>by
  obtain ⟨j,hj,rfl⟩:=List.getElem_of_mem hs
  have:=(h.mbr j hj).asn
  omega
 have honce:Once d:=by
  refine ⟨by omega,by omega,fun m hx=>?_,fun m hx=>?_,fun m hx=>?_,fun p hp=>?_,fun m hx hpos=>?_,fun m hx s hs=>?_,?_,?_,?_,?_,?_⟩
  ·have:=(hmo m hx).asn;omega
  ·have:=(hmo m hx).name.hi;unfold maxLen;omega
  ·have:=(hmo m hx).np;omega
  ·have ho:=hpok p hp
   have h1:=ho.id
   have h2:=ho.nm
   obtain ⟨_,_,u3,u4⟩:=ho.cases4
   have h6:U64 p.v6.hi∧U64 p.v6.lo:=by
    rcases ho.a6 with e|⟨n,e⟩<;>rw [e]
    ·exact ⟨by unfold U64;decide,by unfold U64;decide⟩
    ·have:=u64_six n;exact this.2
   unfold U64 at u3 u4 h6
   exact ⟨by omega,by omega,fun m hm=>⟨(ho.macs m hm).1,fun x hx=>(ho.macs m hm).2.1 x hx⟩,by omega,by omega,by omega,by omega⟩
  ·rw [hsa m hx,hsa _ (List.getElem_mem hpos)]
  ·have:=hmas m hx
   rw [hsa s hs]
   omega
  ·rw [hma,List.nodup_iff_pairwise_ne,List.pairwise_map]
   exact (List.nodup_range).imp fun {a b} hab=>by omega
  ·rw [List.map_append,hsn,hmn]
   have:∀ a:Fin 3,∀ b:Fin 6,((List.range a.val).map srvN++(List.range b.val).map mbrN).Nodup:=by decide +kernel
   exact this ⟨d.servers.length,by omega⟩ ⟨d.members.length,by omega⟩
  ·rw [List.nodup_iff_pairwise_ne,List.pairwise_map]
   exact hsort.imp fun {a b} hab=>by omega
  ·refine nodup_flat (at_all fun i hi=>?_) (hdis.imp fun h=>h.1)
   have hg:=hgood i hi
   generalize (allP d)[i]=p at *
   rcases hg.macs with e|e<;>rw [e]
   ·simp
   ·rw [macF_small (by omega) (by omega),macF_small (by omega) (by omega)]
    simp
  ·refine nodup_flat (at_all fun i hi=>?_) (hdis.imp fun h=>h.2)
   have hg:=hgood i hi
   generalize (allP d)[i]=p at *
   unfold adsP
   split<;>split<;>simp
   rcases hg.a with ⟨e,e2⟩|⟨e,e2⟩|⟨e,e2⟩<;>rw [e,e2]<;>simp [fourA,sixA]<;>omega
 refine ⟨hdb,honce,ports_all d hsort hid,⟨hge,hle⟩,hgood,fun hnil p hp=>?_,fun hnil=>?_⟩
 rotate_left
 ·obtain ⟨z1,z2⟩:=h.zz hnil
  unfold allP
  have s0:d.servers=[]:=List.length_eq_zero_iff.1 z1
  rw [s0,List.nil_append]
  have o:=fun j hj=>(h.mbr j hj).one hnil
  generalize d.members=ms at *
  match ms,z2 with
  | [x,y],_ =>
   have o0:=o 0 (by simp)
   have o1:=o 1 (by simp)
   simp at o0 o1 ⊢
   omega
 obtain ⟨m,hx,hpm⟩:=List.mem_flatMap.1 hp
 obtain ⟨_,_,_,h1,_⟩:=hm m hx
 exact h1.nil hnil p hpm
theorem fbA_addr {a:Ad} (h6:a.v6=false) (hv:validA a.v6 a.hi a.lo=true) (h1:U64 a.hi) (h2:U64 a.lo):fbA false (addrL a)=a:=by
 unfold fbA addrL
 rw [fb_addrB hv h1 h2]
 obtain ⟨v,h,l⟩:=a
 dsimp only at h6
 subst h6
 rfl
theorem arp_back {a:Arp} (h1:a.fm.length=6) (h2:a.tm.length=6) (hop:a.op=1∨a.op=2) (hv:arpV a=true) (u1:U64 a.fr.hi∧U64 a.fr.lo) (u2:U64 a.tt.hi∧U64 a.tt.lo):arpOf (arpB a)=a∧arpE (arpB a)=0:=by
 have hv0:=hv
 unfold arpV ip4 at hv
 simp only [Bool.and_eq_true,Bool.or_eq_true,Bool.not_eq_true'] at hv
 obtain ⟨_,⟨e1,e2⟩,e3,e4⟩:=hv
 have l1:=addrL_len a.fr
 have l2:=addrL_len a.tt
 rw [e2] at l1
 rw [e4] at l2
 have f1:=fbA_addr e2 e1 u1.1 u1.2
 have f2:=fbA_addr e4 e3 u2.1 u2.2
 have hoo:bitV .or .i64 (IntKind.i64.wrap (0 * 2 ^ (min (8:Int).toNat IntKind.i64.bits))) (IntKind.u8.wrap a.op)=a.op:=by
  rcases hop with h|h<;>rw [h]<;>decide +kernel
 have key:arpOf (arpB a)=a:=by
  obtain ⟨op,fm,fr,tm,tt⟩:=a
  dsimp only at *
  obtain ⟨m0,m1,m2,m3,m4,m5,rfl⟩:=six_of h1
  obtain ⟨n0,n1,n2,n3,n4,n5,rfl⟩:=six_of h2
  unfold arpB
  dsimp only
  generalize addrL fr=L1 at *
  generalize addrL tt=L2 at *
  match L1,l1,L2,l2 with
  | [x0,x1,x2,x3],_,[y0,y1,y2,y3],_ =>
   show (⟨bitV .or .i64 (IntKind.i64.wrap (0 * 2 ^ (min (8:Int).toNat IntKind.i64.bits))) (IntKind.u8.wrap op),[m0,m1,m2,m3,m4,m5],fbA false [x0,x1,x2,x3],[n0,n1,n2,n3,n4,n5],fbA false [y0,y1,y2,y3]⟩:Arp)=_
   rw [hoo,f1,f2]
 refine ⟨key,?_⟩
 have hl:(arpB a).length=28:=arpB_len h1 h2 e2 e4
 unfold arpE
 rw [if_neg (by omega),key,hv0]
 have ht:(arpB a).take 6=[0,1,8,0,6,4]:=rfl
 rw [ht,if_pos (by unfold hdE;simp)]
theorem DbFine.uniq {l:List Int} {d:Db} (h:DbFine l d) {a:Ad} {p q:Prt} (hp:p∈allP d) (hq:q∈allP d) (h1:a∈adsP p) (h2:a∈adsP q):p=q:=by
 obtain ⟨i,hi,rfl⟩:=List.getElem_of_mem hp
 obtain ⟨j,hj,rfl⟩:=List.getElem_of_mem hq
 have hl:=h.len
 rcases Nat.lt_trichotomy i j with hij|hij|hij
 ·exact absurd h2 ((tags_ne (h.good i hi) (h.good j hj) (by omega) (by omega) (by omega)).2 a h1)
 ·subst hij;rfl
 ·exact absurd h1 ((tags_ne (h.good j hj) (h.good i hi) (by omega) (by omega) (by omega)).2 a h2)
def reqF (m:List Int) (a:Arp):Fr:=⟨bcM,m,0,2054,arpB a⟩
theorem v4_ok {n:Int} {p:Prt} (hg:PGood n p) (h0:1≤n) (h1:n≤14):ip4 p.v4=true∧U64 p.v4.hi∧U64 p.v4.lo:=by
 obtain ⟨e1,e2,e3,e4⟩:=(hg.ok h0 h1).cases4
 unfold ip4
 rw [e1,e2]
 exact ⟨rfl,e3,e4⟩
theorem v4_in {p:Prt} (h:p.v4≠⟨false,0,0⟩):p.v4∈adsP p∧ad1 p.v4=[p.v4]:=by
 have hz:¬ zeroA p.v4=true:=fun e=>h (eqA_iff.1 e)
 unfold adsP ad1
 rw [if_neg hz]
 simp
theorem macOf_mem {n:Int} {p:Prt} (hg:PGood n p) (h0:1≤n) (h1:n≤14):macOf p∈p.macs∧(macOf p).length=6∧IsB (macOf p):=by
 have hx:macOf p∈p.macs:=by
  unfold macOf
  rcases hg.macs with e|e<;>rw [e]<;>simp
 have:=(hg.ok h0 h1).macs _ hx
 exact ⟨hx,this.1,this.2.1⟩
theorem reqA_ok {m:List Int} {s d:Ad} (hs:ip4 s=true) (hd:ip4 d=true):arpV (reqA m s d)=true:=by
 unfold arpV reqA
 dsimp only
 rw [hs,hd]
 rfl
theorem grp_bc:grpE bcM=true:=by decide +kernel
theorem fr_pure (f:Fr):(frC f).all AV.pure1=true:=by
 unfold frC
 simp only [List.all_append,bytesC_pure,Bool.true_and]
 rfl
theorem newN_any:AFn Tryz.prog 16 0 [.nils] mt (.own 0 0) (up mt 0 (some (deckC [] 0))) :=
 AFn.arg0x (new_any []) fun _ _ _ _ h=>h.nil_isl
theorem macs0_tk {p:Prt} {m:List Int} (hm:m=macOf p) (h6:∀ x,x∈p.macs→x.length=6) (hl:0 < p.macs.length):Tk (macsC p.macs) (0 * 6) 6 (bytesC m):=by
 have:=macs_tk h6 hl
 rw [show p.macs[0]=m from by rw [hm];unfold macOf;match p.macs,hl with
  | x::l,_=>rfl] at this
 exact this
theorem DbFine.prt {l:List Int} {d:Db} (h:DbFine l d) {i:Nat} (hi:i < (allP d).length):(∀ x,x∈(allP d)[i].macs→x.length=6)∧0 < (allP d)[i].macs.length∧(allP d)[i].macs.length≤2∧(macOf (allP d)[i]).length=6∧(1≤(allP d)[i].id∧(allP d)[i].id≤999):=by
 have hl:=h.len
 have g:=(h.good i hi).ok (by omega) (by omega)
 have hm:=macOf_mem (h.good i hi) (by omega) (by omega)
 have:=g.nm
 exact ⟨fun x hx=>(g.macs x hx).1,by omega,by omega,hm.2.1,g.id⟩
theorem arpB_isB {a:Arp} (h1:IsB a.fm) (h2:IsB a.tm):IsB (arpB a):=by
 unfold arpB
 refine IsB.append (IsB.append (IsB.append (IsB.append (fun x hx=>?_) h1) (addrL_isB _)) h2) (addrL_isB _)
 have hw:0≤IntKind.u8.wrap a.op∧IntKind.u8.wrap a.op≤255:=by rw [IntKind.wrap_u8'];omega
 simp only [List.mem_cons,List.not_mem_nil,or_false] at hx
 rcases hx with rfl|rfl|rfl|rfl|rfl|rfl|rfl|rfl<;>first|exact hw|decide
theorem reqF_ok {m:List Int} {s d:Ad} (h6:m.length=6) (hB:IsB m) (hs:s.v6=false) (hd:d.v6=false):FrOk (reqF m (reqA m s d)) :=
 ⟨rfl,h6,arpB_isB hB (fun x hx=>by simp [reqA] at hx;omega),by
  show (arpB (reqA m s d)).length≤100000
  rw [arpB_len h6 rfl hs hd];decide⟩
theorem ip4_v6 {a:Ad} (h:ip4 a=true):a.v6=false:=by
 unfold ip4 at h
 simp at h
 exact h.2
theorem encReq {m:List Int} {s d:Ad} (h6:m.length=6) (hs:ip4 s=true) (hd:ip4 d=true) (u1:U64 s.hi∧U64 s.lo) (u2:U64 d.hi∧U64 d.lo):AFn Tryz.prog 68 0 [.agg (arpC (reqA m s d))] mt (.tup [.isl (bytesC (arpB (reqA m s d))) (arpB (reqA m s d)).length,.base (.int .i64 0)]) mt:=by
 have:=encA_any (reqA m s d) h6 rfl (reqA_ok hs hd) u1 u2
 rw [arpB_len h6 rfl (ip4_v6 hs) (ip4_v6 hd)]
 exact this
theorem dbytes_any (l:List Int) (at_:Nat) (n:Nat) (hn:n≤1000) (hl:l.length≤9223372036854775807) :
 ∃ v H',AFn Tryz.prog 97 1 [.own 0 0,.base (.int .i64 (n:Int))] (up mt 0 (some (deckC l at_))) v H'∧∃ (L:List Int) (at':Nat),(IsB L∧L.length≤n)∧v=.isl (bytesC L) L.length∧H'=up mt 0 (some (deckC l at')):=by
 refine AFn.ex Tryz.func97 rfl rfl (Nat.le_of_ble_eq_true rfl) ?_
 have n1:=next_any l at_ ((n:Int) + 1) (by omega) (by omega) hl
 have b1:=nextV_bd l at_ ((n:Int) + 1) (by omega)
 obtain ⟨k,hk⟩:∃ k:Nat,nextV l at_ ((n:Int) + 1)=(k:Int):=⟨(nextV l at_ ((n:Int) + 1)).toNat,by omega⟩
 obtain ⟨a1,ha1⟩:∃ a1,nextAt l at_=a1:=⟨_,rfl⟩
 rw [hk] at b1
 rw [hk,ha1] at n1
 refine Wq<|qW 1 2 rfl<|qA rfl<|Nl<|Wq<|qW 6 7 rfl<|qA rfl<|Nl<|Wq<|Wq<|qW 11 16 rfl<|qM rfl<|qM rfl<|qZ rfl (iW _ (by omega))<|Od rfl rfl (C1 (fr:=[]) rfl rfl (n1) fok49 (.own rfl rfl (.cons rfl (.pure rfl) .nil)) rfl rfl rfl (Cn _ _) (by decide) rfl)<|qA rfl<|Nl<|W.name 16 (16 + 1) (t:=5) (sz:=1) rfl (by decide) (by decide)<|Wb<|W.loop_keep (α:=Nat × Nat × List Int) (fun x=>x.1) 2 (fun x=>[(0,.own 0 0),(5,.osl 1 0 x.2.2.length 1),(6,.base (.int .i64 (x.1:Int)))]) (fun x=>up (up mt 0 (some (deckC l x.2.1))) 1 (some (bytesC x.2.2))) (fun x=>IsB x.2.2∧x.2.2.length + x.1≤n) (k,a1,(([]:List Int))) [(0,0),(1,16)] .nil (show IsB (([]:List Int))∧(([]:List Int)).length + k≤n from ⟨fun x hx=>(by cases hx),(by show 0 + k≤n;omega)⟩) (by decide) ?_ ?_ ?_
 ·exact lC (lI rfl) (lC (lI rfl) (lC (lR rfl) lN))
 ·exact aU (kR rfl) (aU (kR rfl) aM)
 rintro ⟨q,a,L⟩ hIA ihA
 try (dsimp only at hIA)
 try dsimp only [baseT,List.cons_append,List.nil_append]
 obtain ⟨hLB,hLq⟩:=hIA
 by_cases hq:q=0
 ·have g1:decide ((q:Int) > 0)=false:=decide_eq_false (by omega)
  refine Wq<|Wq<|qW 20 22 rfl<|qM rfl<|qGt rfl<|Nl<|Wo rfl ‹_›<|Wx<|Wq<|qW 44 46 rfl<|qM rfl<|qA rfl<|Nl<|Wy (t:=4) rfl rfl (bytes_tk rfl) (bytesC_pure _)<|Wz ⟨.inl rfl,_,(up mt 0 (some (deckC l a))),(Rc (Rt0 rfl) Rv),(aU rfl aM),?_⟩
  exact ⟨L,a,⟨hLB,by omega⟩,rfl,rfl⟩
 ·have g1:decide ((q:Int) > 0)=true:=decide_eq_true (by omega)
  have n2:=next_any l a 256 (by decide) (by decide) hl
  obtain ⟨e,he⟩:∃ e,nextV l a 256=e:=⟨_,rfl⟩
  obtain ⟨a2,ha2⟩:∃ a2,nextAt l a=a2:=⟨_,rfl⟩
  rw [he,ha2] at n2
  have hqq:(q:Int) - 1=((q - 1:Nat):Int):=by omega
  have hap:bytesC L++[AV.base (.int .u8 (IntKind.u8.wrap e))]=bytesC (L++[IntKind.u8.wrap e]):=by rw [bytesC_app];rfl
  have hl1:L.length + 1=(L++[IntKind.u8.wrap e]).length:=by simp
  refine Wq<|Wq<|qW 20 22 rfl<|qM rfl<|qGt rfl<|Nl<|Wt rfl ‹_›<|Wu<|Wq<|Wb<|qW 26 33 rfl<|qM rfl<|qM rfl<|Od rfl rfl (C1 (fr:=[]) rfl rfl (n2) fok49 (.own rfl rfl (.cons rfl (.pure rfl) .nil)) rfl rfl rfl (Cn _ _) (by decide) rfl)<|Od rfl rfl (LO.conv rfl rfl ty3 ty5)<|Od rfl rfl (LO.buildSlice rfl ty24 ty5 (by decide) (by decide) (.cons rfl rfl rfl rfl (Sl rfl) .nil))<|Od rfl rfl (Lap rfl rfl (Sso rfl rfl (Tl rfl)) rfl (bytes_tk rfl) ty24 ty24 ty5 (by decide) (by omega) (by omega) (by decide))<|qA rfl<|Nl ?_
  rw [hap,hl1]
  refine qW 37 40 rfl<|qM rfl<|Od rfl rfl (LO.sub_in rfl rfl rfl (iW _ (by omega)))<|qA rfl<|Nl ?_
  rw [hqq]
  refine WL.renameL [(0,0),(1,31)] 2 (by decide) ?_ ?_ (ihA ((q - 1),a2,(L++[IntKind.u8.wrap e])) (show (q - 1) < q from by omega) (show IsB (L++[IntKind.u8.wrap e])∧(L++[IntKind.u8.wrap e]).length + (q - 1)≤n from ⟨hLB.append (fun x hx=>by rw [List.mem_singleton] at hx;subst hx;exact u8_bd _),by rw [← hl1];omega⟩))
  ·exact lC (lI rfl) (lC (lI rfl) (lC (lR rfl) lN))
  ·exact aU (kP rfl (bytesC_pure _)) (aU (kR rfl) aM)
def V4Ok (a:Ad):Prop:=ip4 a=true∧U64 a.hi∧U64 a.lo
def V6Ok (a:Ad):Prop:=a.v6=true∧U64 a.hi∧U64 a.lo
theorem fourA_ok {n:Int} (h0:0≤n) (h1:n≤100):V4Ok (fourA n):=by
 unfold V4Ok ip4 validA fourA U64
 simp
 omega
theorem sixA_ok {n:Int} (h0:0≤n) (h1:n≤100):V6Ok (sixA n):=by
 unfold V6Ok sixA U64
 simp
 omega
theorem dfour_any (l:List Int) (at_:Nat) (hl:l.length≤9223372036854775807) :
 ∃ v H',AFn Tryz.prog 96 1 [.own 0 0] (up mt 0 (some (deckC l at_))) v H'∧∃ (a:Ad) (at':Nat),V4Ok a∧v=.agg (adC a)∧H'=up mt 0 (some (deckC l at')):=by
 refine AFn.ex Tryz.func96 rfl rfl (Nat.le_of_ble_eq_true rfl) ?_
 have n1:=next_any l at_ 6 (by decide) (by decide) hl
 have n2:=next_any l (nextAt l at_) 10 (by decide) (by decide) hl
 have b2:=nextV_bd l (nextAt l at_) 10 (by decide)
 generalize nextV l (nextAt l at_) 10=q at *
 generalize nextAt l (nextAt l at_)=a2 at *
 generalize nextV l at_ 6=r at *
 generalize nextAt l at_=a1 at *
 refine Wq<|qW 1 2 rfl<|qB rfl ty54<|Nl ?_
 cases k1:(r == 5)
 ·
  refine Wq<|Wq<|qW 6 9 rfl<|qM rfl<|Od rfl rfl (C1 (fr:=[]) rfl rfl (n1) fok49 (.own rfl rfl (.cons rfl (.pure rfl) .nil)) rfl rfl rfl (Cn _ _) (by decide) rfl)<|qE rfl<|Nl<|Wo rfl ‹_›<|Wu<|Wq<|qW 19 23 rfl<|qM rfl<|Od rfl rfl (C1 (fr:=[]) rfl rfl (n2) fok49 (.own rfl rfl (.cons rfl (.pure rfl) .nil)) rfl rfl rfl (Cn _ _) (by decide) rfl)<|qY rfl (fourM_any q (by omega) (by omega)) fok95 rfl<|qS rfl ty54 (Sl rfl) rfl<|Nl<|Wz ⟨.inl rfl,_,up mt 0 (some (deckC l a2)),(Rc (Ra0 rfl rfl ty54 rfl (Tl rfl)) Rv),(aU rfl aM),?_⟩
  exact ⟨fourA q,a2,fourA_ok (by omega) (by omega),rfl,rfl⟩
 ·
  refine Wq<|Wq<|qW 6 9 rfl<|qM rfl<|Od rfl rfl (C1 (fr:=[]) rfl rfl (n1) fok49 (.own rfl rfl (.cons rfl (.pure rfl) .nil)) rfl rfl rfl (Cn _ _) (by decide) rfl)<|qE rfl<|Nl<|Wt rfl ‹_›<|Wq<|qW 13 15 rfl<|Od rfl rfl (Bs rfl ty54 (.cons rfl rfl rfl rfl (Sl rfl) .nil))<|qS rfl ty54 (Sl rfl) rfl<|Nl<|Wz ⟨.inl rfl,_,up mt 0 (some (deckC l a1)),(Rc (Ra0 rfl rfl ty54 rfl (Tl rfl)) Rv),(aU rfl aM),?_⟩
  exact ⟨⟨false,0,134744072⟩,a1,by unfold V4Ok ip4 validA U64;decide,rfl,rfl⟩
theorem one_any (l:List Int) (at_:Nat) (zs:List Ad) (o:Ad) (hzs:zs.length≤1000) (hl:l.length≤9223372036854775807) :
 ∃ v H',AFn Tryz.prog 137 1 [.own 0 0,.isl (adsC zs) zs.length,.agg (adC o)] (up mt 0 (some (deckC l at_))) v H'∧∃ (a:Ad) (at':Nat),(a=o∨a∈zs)∧v=.agg (adC a)∧H'=up mt 0 (some (deckC l at')):=by
 refine AFn.ex Tryz.func137 rfl rfl (Nat.le_of_ble_eq_true rfl) ?_
 have n1:=next_any l at_ 7 (by decide) (by decide) hl
 generalize nextV l at_ 7=r at *
 generalize nextAt l at_=a1 at *
 refine Wq<|qW 1 3 rfl<|qC rfl<|qB rfl ty54<|Nl ?_
 by_cases h0:zs.length=0
 ·have k0:((zs.length:Int) == 0)=true:=by rw [beq_iff_eq];omega
  refine Wq<|Wq<|qW 7 15 rfl<|qM rfl<|qH rfl ty37<|qE rfl<|qM rfl<|qD rfl ‹_› rfl<|qD rfl ‹_› rfl<|qD rfl ‹_› rfl<|qT rfl ‹_› rfl<|Nl<|Wt rfl rfl<|Wq<|qW 19 21 rfl<|qG rfl ty54 rfl (Tl rfl)<|qS rfl ty54 (Sl rfl) rfl<|Nl<|Wz ⟨.inl rfl,_,up mt 0 (some (deckC l at_)),(Rc (Ra0 rfl rfl ty54 rfl (Tl rfl)) Rv),(aU rfl aM),?_⟩
  exact ⟨o,at_,.inl rfl,rfl,rfl⟩
 ·have k0:((zs.length:Int) == 0)=false:=by rw [beq_eq_false_iff_ne];omega
  cases k1:(r == 6)
  ·
   obtain ⟨j,hj,hjb⟩:=nat_of (nextV_bd l a1 (zs.length:Int) (by omega))
   have n2:=next_any l a1 (zs.length:Int) (by omega) (by omega) hl
   rw [hj] at n2
   generalize nextAt l a1=a2 at *
   have hjl:j < zs.length:=by omega
   refine Wq<|Wq<|qW 7 15 rfl<|qM rfl<|qH rfl ty37<|qE rfl<|qM rfl<|gM rfl ‹_›<|qU rfl ‹_› rfl (C1 (fr:=[]) rfl rfl (n1) fok49 (.own rfl rfl (.cons rfl (.pure rfl) .nil)) rfl rfl rfl (Cn _ _) (by decide) rfl)<|gE rfl ‹_›<|qP rfl ‹_› rfl<|Nl<|Wo rfl ‹_›<|Wu<|Wq<|qW 25 33 rfl<|qM rfl<|qM rfl<|qM rfl<|qH rfl ty37<|Od rfl rfl (C1 (fr:=[]) rfl rfl (n2) fok49 (.own rfl rfl (.cons rfl (.pure rfl) .nil)) rfl rfl rfl (Cn _ _) (by decide) rfl)<|qJ rfl rfl ty37 ty54 (by omega)<|Od rfl rfl (Lg rfl rfl ty54 rfl (ads_tk hjl))<|qS rfl ty54 (Sl rfl) rfl<|Nl<|Wz ⟨.inl rfl,_,up mt 0 (some (deckC l a2)),(Rc (Ra0 rfl rfl ty54 rfl (Tl rfl)) Rv),(aU rfl aM),?_⟩
   exact ⟨zs[j],a2,.inr (List.getElem_mem hjl),rfl,rfl⟩
  ·
   refine Wq<|Wq<|qW 7 15 rfl<|qM rfl<|qH rfl ty37<|qE rfl<|qM rfl<|gM rfl ‹_›<|qU rfl ‹_› rfl (C1 (fr:=[]) rfl rfl (n1) fok49 (.own rfl rfl (.cons rfl (.pure rfl) .nil)) rfl rfl rfl (Cn _ _) (by decide) rfl)<|gE rfl ‹_›<|qP rfl ‹_› rfl<|Nl<|Wt rfl ‹_›<|Wq<|qW 19 21 rfl<|qG rfl ty54 rfl (Tl rfl)<|qS rfl ty54 (Sl rfl) rfl<|Nl<|Wz ⟨.inl rfl,_,up mt 0 (some (deckC l a1)),(Rc (Ra0 rfl rfl ty54 rfl (Tl rfl)) Rv),(aU rfl aM),?_⟩
   exact ⟨o,a1,.inl rfl,rfl,rfl⟩
theorem solic_any (a:Ad):∃ v H',AFn Tryz.prog 41 0 [.agg (adC a)] mt v H'∧∃ m:List Int,(m.length=6∧IsB m)∧v=.agg (bytesC m)∧H'=mt:=by
 refine AFn.ex Tryz.func41 rfl rfl (Nat.le_of_ble_eq_true rfl) ?_
 obtain ⟨v6,hi,lo⟩:=a
 cases v6
 ·
  refine Wq<|qW 0 2 rfl<|qC rfl<|qB rfl ty23<|Nl<|Wq<|Wq<|qW 6 9 rfl<|qF rfl ty54 rfl<|qL rfl ty4 rfl<|qO rfl<|Nl<|Wt rfl rfl<|Wq<|qW 13 15 rfl<|Od rfl rfl (LO.build_ar rfl ty23 ty5 .nil)<|qS rfl ty23 (Sl rfl) rfl<|Nl<|Wz ⟨.inl rfl,_,mt,(Rc (Ra0 rfl rfl ty23 rfl (Tl rfl)) Rv),aM,?_⟩
  exact ⟨[0,0,0,0,0,0],⟨rfl,fun x hx=>by simp at hx;omega⟩,rfl,rfl⟩
 ·
  refine Wq<|qW 0 2 rfl<|qC rfl<|qB rfl ty23<|Nl<|Wq<|Wq<|qW 6 9 rfl<|qF rfl ty54 rfl<|qL rfl ty4 rfl<|qO rfl<|Nl<|Wo rfl rfl<|Wu<|Wq<|qW 19 32 rfl<|qF rfl ty54 rfl<|qL rfl ty52 rfl<|Od rfl rfl (LO.shr rfl rfl rfl (by omega))<|Od rfl rfl (LO.conv rfl rfl ty52 ty5)<|qF rfl ty54 rfl<|qL rfl ty52 rfl<|Od rfl rfl (LO.shr rfl rfl rfl (by omega))<|Od rfl rfl (LO.conv rfl rfl ty52 ty5)<|qF rfl ty54 rfl<|qL rfl ty52 rfl<|Od rfl rfl (LO.conv rfl rfl ty52 ty5)<|Od rfl rfl (LO.build_ar rfl ty23 ty5 (.cons rfl rfl rfl rfl (Sl rfl) (.cons rfl rfl rfl rfl (Sl rfl) (.cons rfl rfl rfl rfl (Sl rfl) (.cons rfl rfl rfl rfl (Sl rfl) (.cons rfl rfl rfl rfl (Sl rfl) (.cons rfl rfl rfl rfl (Sl rfl) .nil)))))))<|qS rfl ty23 (Sl rfl) rfl<|Nl<|Wz ⟨.inl rfl,_,mt,(Rc (Ra0 rfl rfl ty23 rfl (Tl rfl)) Rv),aM,?_⟩
  refine ⟨[51,51,255,_,_,_],⟨rfl,fun x hx=>?_⟩,rfl,rfl⟩
  simp only [List.mem_cons,List.not_mem_nil,or_false] at hx
  rcases hx with rfl|rfl|rfl|rfl|rfl|rfl<;>first|decide|exact u8_bd _
structure RlOk (r:Rl):Prop where
 nm:1≤r.macs.length∧r.macs.length≤1000
 macs:∀ m,m∈r.macs→m.length=6∧IsB m
 n4:r.v4.length≤1000
 v4:∀ a,a∈r.v4→V4Ok a
 n6:r.v6.length≤1000
 v6:∀ a,a∈r.v6→V6Ok a
structure FrG (f:Fr):Prop where
 ok:FrOk f
 dB:IsB f.dst
 sB:IsB f.src
 dl:f.data.length≤99998
theorem FrG.mk6 {d s x:List Int} {v t:Int} (h1:d.length=6∧IsB d) (h2:s.length=6∧IsB s) (h3:IsB x∧x.length≤99998):FrG ⟨d,s,v,t,x⟩:=⟨⟨h1.1,h2.1,h3.1,by have:=h3.2;dsimp only;omega⟩,h1.2,h2.2,h3.2⟩
structure FrX (f:Fr):Prop where
 ok:FrOk f
 dB:IsB f.dst
 sB:IsB f.src
structure FrY (f:Fr):Prop where
 ok:FrOk f
 dB:IsB f.dst
 sB:IsB f.src
 dl:f.data.length≤99999
theorem FrY.mk6 {d s x:List Int} {v t:Int} (h1:d.length=6∧IsB d) (h2:s.length=6∧IsB s) (h3:IsB x∧x.length≤99999):FrY ⟨d,s,v,t,x⟩:=⟨⟨h1.1,h2.1,h3.1,Nat.le_succ_of_le h3.2⟩,h1.2,h2.2,h3.2⟩
theorem IsB.zeros (n:Nat):IsB (List.replicate n 0):=fun x hx=>by rw [(List.mem_replicate.1 hx).2];decide
set_option maxHeartbeats 4000000 in
theorem arpM_any (l:List Int) (at_:Nat) (r to:Rl) (f:Fr) (hr:RlOk r) (ht:RlOk to) (hf:FrG f) (hl:l.length≤9223372036854775807) :
 ∃ v H',AFn Tryz.prog 98 2 [.own 0 0,.agg (ruleC r),.agg (ruleC to),.own 1 0] (up (up mt 1 (some (frC f))) 0 (some (deckC l at_))) v H' ∧
  ∃ (g:Fr) (at':Nat),FrG g∧v=.tup []∧H'=up (up mt 1 (some (frC g))) 0 (some (deckC l at')):=by
 refine AFn.ex Tryz.func98 rfl rfl (Nat.le_of_ble_eq_true rfl) ?_
 obtain ⟨dst,src,vl,ty,data⟩:=f
 have d6:=hf.ok.d6
 have s6:=hf.ok.s6
 have dB:=hf.dB
 have sB:=hf.sB
 clear hf
 dsimp only at d6 s6 dB sB
 obtain ⟨d0,d1,d2,d3,d4,d5,rfl⟩:=six_of d6
 obtain ⟨s0,s1,s2,s3,s4,s5,rfl⟩:=six_of s6
 obtain ⟨_,_,h8,o1,a1,ho1,rfl,rfl⟩:=dfour_any l at_ hl
 obtain ⟨_,_,h9,x1,a2,hx1,rfl,rfl⟩:=one_any l a1 r.v4 o1 hr.n4 hl
 obtain ⟨_,_,h14,o2,a3,ho2,rfl,rfl⟩:=dfour_any l a2 hl
 obtain ⟨_,_,h15,x2,a4,hx2,rfl,rfl⟩:=one_any l a3 to.v4 o2 ht.n4 hl
 have k1:V4Ok x1:=by
  rcases hx1 with e|e
  ·exact e ▸ ho1
  ·exact hr.v4 _ e
 have k2:V4Ok x2:=by
  rcases hx2 with e|e
  ·exact e ▸ ho2
  ·exact ht.v4 _ e
 have hreq:=request_any [s0,s1,s2,s3,s4,s5] x1 x2 rfl
 have hm0:=ht.macs _ (List.getElem_mem (show 0 < to.macs.length by have:=ht.nm;omega))
 have tM:=macs_tk (fun m hm=>(ht.macs m hm).1) (show 0 < to.macs.length by have:=ht.nm;omega)
 have hnm:=ht.nm
 generalize to.macs[0]'(by have:=ht.nm;omega)=m at hm0 tM
 obtain ⟨m6,mB⟩:=hm0
 obtain ⟨m0,m1,m2,m3,m4,m5,rfl⟩:=six_of m6
 have n1:=next_any l a4 3 (by decide) (by decide) hl
 generalize nextV l a4 3=e1 at *
 generalize nextAt l a4=a5 at *
 refine Wq<|qW 2 4 rfl<|qC rfl<|qC rfl<|Nl<|Wq<|Wd 8 27 (by decide) rfl mixed rfl<|qM rfl<|Od rfl rfl (Nc rfl rfl)<|qF rfl ty26 rfl<|qG rfl ty23 rfl (Tl rfl)<|qM rfl<|qF rfl ty39 rfl<|qL rfl ty37 rfl<|qM rfl<|Od rfl rfl (C1 (fr:=[]) rfl rfl (h8) fok96 (.own rfl rfl .nil) rfl rfl rfl (Cn _ _) (by decide) rfl)<|Od rfl rfl (C1 (fr:=[]) rfl rfl (h9) fok137 (.own rfl rfl (.cons rfl (.pure rfl) (.cons rfl (.pure rfl) .nil))) rfl rfl rfl (Cn _ _) (by decide) rfl)<|qM rfl<|qF rfl ty39 rfl<|qL rfl ty37 rfl<|qM rfl<|Od rfl rfl (C1 (fr:=[]) rfl rfl (h14) fok96 (.own rfl rfl .nil) rfl rfl rfl (Cn _ _) (by decide) rfl)<|Od rfl rfl (C1 (fr:=[]) rfl rfl (h15) fok137 (.own rfl rfl (.cons rfl (.pure rfl) (.cons rfl (.pure rfl) .nil))) rfl rfl rfl (Cn _ _) (by decide) rfl)<|qY rfl (hreq) fok69 rfl<|qB rfl ty78<|qS rfl ty78 (Sl rfl) rfl<|Nl ⟨by kernel_rfl,(Wq<|qW 31 40 rfl<|qM rfl<|qM rfl<|qY rfl (bcX_any) fok39 rfl<|Od rfl rfl (Nc rfl rfl)<|qF rfl ty26 rfl<|qS rfl ty3 (Sl rfl) rfl<|Od rfl rfl (Nc rfl rfl)<|qF rfl ty26 rfl<|qS rfl ty23 (Sl rfl) rfl<|Nl<|Wq<|W.joinK (α:=Int × List Int × List Int) 3 (fun x=>[(0,.own 0 0),(3,.own 1 0),(8,.own 2 0)]) (fun x=>up (up (up mt 0 (some (deckC l a5))) 1 (some (frC ⟨x.2.1,[s0,s1,s2,s3,s4,s5],vl,2054,data⟩))) 2 (some (arpC ⟨x.1,[s0,s1,s2,s3,s4,s5],x1,x.2.2,x2⟩))) (fun x=>(x.1=1∨x.1=2)∧(x.2.1.length=6∧IsB x.2.1)∧(x.2.2.length=6∧IsB x.2.2)) .nil ?_ ?_)⟩
 rotate_left
 rintro ⟨op,dd,tm⟩ hIJ
 try (dsimp only at hIJ)
 try dsimp only [joinT,baseT,List.cons_append,List.nil_append]
 rotate_right
 ·
  cases q1:(e1 == 2)
  ·
   refine Wq<|qW 44 47 rfl<|qM rfl<|Od rfl rfl (C1 (fr:=[]) rfl rfl (n1) fok49 (.own rfl rfl (.cons rfl (.pure rfl) .nil)) rfl rfl rfl (Cn _ _) (by decide) rfl)<|qE rfl<|Nl<|Wo rfl ‹_›<|Wu ?_
   intro yJ KJ hJ
   refine W.renameJ [(0,0),(1,1),(2,25)] 3 (by decide) ?_ ?_ (hJ (1,bcM,[0,0,0,0,0,0]) (show (1=1∨1=2)∧(bcM.length=6∧IsB bcM)∧([0,0,0,0,0,0].length=6∧IsB [0,0,0,0,0,0]) from ⟨.inl rfl,⟨rfl,fun x hx=>by simp [bcM] at hx;omega⟩,⟨rfl,fun x hx=>by simp at hx;omega⟩⟩))
   ·exact lC (lI rfl) (lC (lI rfl) (lC (lI rfl) lN))
   ·exact aU (kR rfl) (aU (kR rfl) (aU (kR rfl) aM))
  ·
   refine Wq<|qW 44 47 rfl<|qM rfl<|Od rfl rfl (C1 (fr:=[]) rfl rfl (n1) fok49 (.own rfl rfl (.cons rfl (.pure rfl) .nil)) rfl rfl rfl (Cn _ _) (by decide) rfl)<|qE rfl<|Nl<|Wt rfl ‹_›<|Wd 51 67 (by decide) rfl mixed rfl<|qM rfl<|qF rfl ty39 rfl<|qL rfl ty36 rfl<|qJ rfl rfl ty36 ty23 (by simp;omega)<|Od rfl rfl (Lg rfl rfl ty23 rfl tM)<|qF rfl ty39 rfl<|qL rfl ty36 rfl<|qJ rfl rfl ty36 ty23 (by simp;omega)<|Od rfl rfl (Lg rfl rfl ty23 rfl tM)<|qF rfl ty78 rfl<|qS rfl ty3 (Sl rfl) rfl<|qF rfl ty78 rfl<|qS rfl ty23 (Sl rfl) rfl<|Od rfl rfl (Nc rfl rfl)<|qF rfl ty26 rfl<|qS rfl ty23 (Sl rfl) rfl<|Nl ⟨by kernel_rfl,?_⟩
   intro yJ KJ hJ
   refine W.renameJ [(0,0),(1,1),(2,25)] 3 (by decide) ?_ ?_ (hJ (2,[m0,m1,m2,m3,m4,m5],[m0,m1,m2,m3,m4,m5]) (show (2=1∨2=2)∧([m0,m1,m2,m3,m4,m5].length=6∧IsB [m0,m1,m2,m3,m4,m5])∧([m0,m1,m2,m3,m4,m5].length=6∧IsB [m0,m1,m2,m3,m4,m5]) from ⟨.inr rfl,⟨rfl,mB⟩,⟨rfl,mB⟩⟩))
   ·exact lC (lI rfl) (lC (lI rfl) (lC (lI rfl) lN))
   ·exact aU (kR rfl) (aU (kR rfl) (aU (kR rfl) aM))
 obtain ⟨hop,⟨l1,dB2⟩,l2,tB⟩:=hIJ
 obtain ⟨b0,b1,b2,b3,b4,b5,rfl⟩:=six_of l1
 obtain ⟨c0,c1,c2,c3,c4,c5,rfl⟩:=six_of l2
 have n2:=next_any l a5 8 (by decide) (by decide) hl
 generalize nextV l a5 8=e2 at *
 generalize nextAt l a5=a6 at *
 refine Wq<|W.joinK (α:=Ad) 3 (fun x=>[(0,.own 0 0),(3,.own 1 0),(8,.own 2 0)]) (fun x=>up (up (up mt 0 (some (deckC l a6))) 1 (some (frC ⟨[b0,b1,b2,b3,b4,b5],[s0,s1,s2,s3,s4,s5],vl,2054,data⟩))) 2 (some (arpC ⟨op,[s0,s1,s2,s3,s4,s5],x1,[c0,c1,c2,c3,c4,c5],x⟩))) (fun x=>V4Ok x) .nil ?_ ?_
 rotate_left
 rintro y hIK
 try (dsimp only at hIK)
 try dsimp only [joinT,baseT,List.cons_append,List.nil_append]
 rotate_right
 ·
  cases q1:(e2 == 7)
  ·
   refine Wq<|qW 71 74 rfl<|qM rfl<|Od rfl rfl (C1 (fr:=[]) rfl rfl (n2) fok49 (.own rfl rfl (.cons rfl (.pure rfl) .nil)) rfl rfl rfl (Cn _ _) (by decide) rfl)<|qE rfl<|Nl<|Wo rfl ‹_›<|Wu ?_
   intro yJ KJ hJ
   refine W.renameJ [(0,0),(1,1),(2,2)] 3 (by decide) ?_ ?_ (hJ x2 (show V4Ok x2 from k2))
   ·exact lC (lI rfl) (lC (lI rfl) (lC (lI rfl) lN))
   ·exact aU (kR rfl) (aU (kR rfl) (aU (kR rfl) aM))
  ·
   refine Wq<|qW 71 74 rfl<|qM rfl<|Od rfl rfl (C1 (fr:=[]) rfl rfl (n2) fok49 (.own rfl rfl (.cons rfl (.pure rfl) .nil)) rfl rfl rfl (Cn _ _) (by decide) rfl)<|qE rfl<|Nl<|Wt rfl ‹_›<|qW 78 82 rfl<|qF rfl ty78 rfl<|qG rfl ty54 rfl (Tl rfl)<|qF rfl ty78 rfl<|qS rfl ty54 (Sl rfl) rfl<|Nl ?_
   intro yJ KJ hJ
   refine W.renameJ [(0,0),(1,1),(2,2)] 3 (by decide) ?_ ?_ (hJ x1 (show V4Ok x1 from k1))
   ·exact lC (lI rfl) (lC (lI rfl) (lC (lI rfl) lN))
   ·exact aU (kR rfl) (aU (kR rfl) (aU (kR rfl) aM))
 have hav:arpV ⟨op,[s0,s1,s2,s3,s4,s5],x1,[c0,c1,c2,c3,c4,c5],y⟩=true:=by
  unfold arpV
  dsimp only
  rw [k1.1,hIK.1]
  rcases hop with h|h<;>rw [h]<;>rfl
 have henc:=encO_any ⟨op,[s0,s1,s2,s3,s4,s5],x1,[c0,c1,c2,c3,c4,c5],y⟩ rfl rfl hav k1.2 hIK.2
 have hBl:(arpB ⟨op,[s0,s1,s2,s3,s4,s5],x1,[c0,c1,c2,c3,c4,c5],y⟩).length=28:=arpB_len rfl rfl (ip4_v6 k1.1) (ip4_v6 hIK.1)
 have hBB:IsB (arpB ⟨op,[s0,s1,s2,s3,s4,s5],x1,[c0,c1,c2,c3,c4,c5],y⟩):=arpB_isB sB tB
 generalize arpB ⟨op,[s0,s1,s2,s3,s4,s5],x1,[c0,c1,c2,c3,c4,c5],y⟩=B at *
 have n3:=next_any l a6 2 (by decide) (by decide) hl
 generalize nextV l a6 2=e3 at *
 generalize nextAt l a6=a7 at *
 refine Wq<|qW 86 95 rfl<|qM rfl<|qG rfl ty78 rfl (Tl rfl)<|Od rfl rfl (LO.callTO (fr:=[]) rfl rfl henc fok68 (.cons rfl (.pure rfl) .nil) (bytesC_pure _) (by decide))<|qM rfl<|qX rfl<|qX rfl<|Od rfl rfl (Nc rfl rfl)<|qF rfl ty26 rfl<|qS rfl ty24 (Sl rfl) rfl<|Nl ?_
 cases q3:(e3 == 0)
 ·
  refine Wq<|qW 99 102 rfl<|qM rfl<|Od rfl rfl (C1 (fr:=[]) rfl rfl (n3) fok49 (.own rfl rfl (.cons rfl (.pure rfl) .nil)) rfl rfl rfl (Cn _ _) (by decide) rfl)<|qE rfl<|Nl<|Wo rfl ‹_›<|Wv (q:=1) (j:=14) (r:=88) rfl rfl (by decide) rfl (bytes_tk hBl) (bytesC_pure _) (Sl rfl)<|Wu ⟨.inr rfl,_,up (up mt 1 (some (bytesC [b0,b1,b2,b3,b4,b5]++bytesC [s0,s1,s2,s3,s4,s5]++[.base (.int .i64 vl),.base (.int .i64 2054),.isl (bytesC B) 28]))) 0 (some (deckC l a7)),Rv,(aU rfl (aU rfl aM)),?_⟩
  exact ⟨⟨[b0,b1,b2,b3,b4,b5],[s0,s1,s2,s3,s4,s5],vl,2054,B⟩,a7,.mk6 ⟨rfl,dB2⟩ ⟨rfl,sB⟩ ⟨hBB,by omega⟩,rfl,by unfold frC;dsimp only;rw [hBl]⟩
 ·
  refine Wq<|qW 99 102 rfl<|qM rfl<|Od rfl rfl (C1 (fr:=[]) rfl rfl (n3) fok49 (.own rfl rfl (.cons rfl (.pure rfl) .nil)) rfl rfl rfl (Cn _ _) (by decide) rfl)<|qE rfl<|Nl<|Wt rfl ‹_›<|W.endS<|qW 106 115 rfl<|qM rfl<|qM rfl<|Od rfl rfl (Nc rfl rfl)<|qF rfl ty26 rfl<|qL rfl ty24 rfl<|Od rfl rfl (LO.append_zeros rfl rfl rfl rfl (bytes_tk hBl) ty24 ty3 ty5 (by decide) (by omega) (by decide) (by decide) (by decide) (by decide))<|Od rfl rfl (Nc rfl rfl)<|qF rfl ty26 rfl<|qS rfl ty24 (Sl rfl) rfl<|Nl ?_
  have hz:(bytesC B++zerosL 18 [.base (.int .u8 0)])=bytesC (B++List.replicate 18 0):=by rw [bytesC_app];rfl
  have hB2:(B++List.replicate 18 (0:Int)).length=28 + 18:=by rw [List.length_append,hBl,List.length_replicate]
  rw [hz]
  refine ⟨_,fun B0 a0 w0 h0=>h0.frzc (q:=1) (j:=14) (r:=111) rfl rfl (by decide) rfl (bytes_tk hB2) (bytesC_pure _) (Sp.lit rfl),.inr rfl,_,up (up mt 1 (some (bytesC [b0,b1,b2,b3,b4,b5]++bytesC [s0,s1,s2,s3,s4,s5]++[.base (.int .i64 vl),.base (.int .i64 2054),.isl (bytesC (B++List.replicate 18 0)) (28 + 18)]))) 0 (some (deckC l a7)),RVs.nil,(aU rfl (aU rfl aM)),?_⟩
  exact ⟨⟨[b0,b1,b2,b3,b4,b5],[s0,s1,s2,s3,s4,s5],vl,2054,B++List.replicate 18 0⟩,a7,.mk6 ⟨rfl,dB2⟩ ⟨rfl,sB⟩ ⟨hBB.append (IsB.zeros 18),by omega⟩,rfl,by unfold frC;dsimp only;rw [hB2]⟩
theorem by_tk2 {L M:List Int} {n:Nat} (h:L.length + M.length=n):Tk (bytesC L++bytesC M) 0 (n * 1) (bytesC (L++M)):=by
 rw [← bytesC_app];exact bytes_tk (by simp [h])
def hdB (p:Pk):List Int:=[69,0]++putL (20 + (p.bs.length:Int))++[0,0,64,0,p.t,p.p,0,0]++(addrL p.s++addrL p.d)
def hdS (p:Pk):List Int:=((hdB p).set 10 (hi8 (sumL (hdB p)))).set 11 (IntKind.u8.wrap (sumL (hdB p)))
def encB (p:Pk):List Int:=if p.s.v6 then [96,0,0,0]++putL (p.bs.length:Int)++[p.p,p.t]++(addrL p.s++addrL p.d)++p.bs else hdS p++p.bs
def encL2 (p:Pk):List Int:=if vpk p then encB p else []
def encE (p:Pk):Int:=if vpk p then 0 else 1
def ecV (p:Pk):AV:=.tup [.isl (bytesC (encL2 p)) (encL2 p).length,.base (.int .i64 (encE p))]
theorem hdB_len (p:Pk):(hdB p).length=12 + ((addrL p.s).length + (addrL p.d).length):=by simp [hdB,putL];omega
theorem hdB_isB {p:Pk} (h1:0≤p.p∧p.p≤255) (h2:0≤p.t∧p.t≤255):IsB (hdB p):=by
 unfold hdB
 refine IsB.append (IsB.append (IsB.append ?_ (putL_isB _)) ?_) ((addrL_isB _).append (addrL_isB _))
 ·intro x hx
  simp only [List.mem_cons,List.not_mem_nil,or_false] at hx
  omega
 ·intro x hx
  simp only [List.mem_cons,List.not_mem_nil,or_false] at hx
  omega
theorem adl_len (a:Ad):(addrL a).length≤16∧4≤(addrL a).length:=by rw [addrL_len];split<;>omega
end Go.Proofs.YtlcndmciognneaaGreatDoor
