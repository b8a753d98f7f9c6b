/-
  A member with its ports, as the generator makes it.
-/
import Derived.Test.YtcidmiacfjdepaaGreatDoorJf
import Derived.Test.YtcidmiacfjdepaaGreatDoorQn
import Derived.Test.YtcidmiacfjdepaaGreatDoorQh
import Derived.Test.YtcidmiacfjdepaaGreatDoorJh
import Derived.Test.YtcidmiacfjdepaaGreatDoorMab
namespace Go.Proofs.YtcidmiacfjdepaaGreatDoor
open Go.RowKit
theorem nextV_nil (at_:Nat) (n:Int):nextV [] at_ n=0:=by simp [nextV]
/-- the port that was made with the number n -/
structure PGood (n:Int) (p:Prt):Prop where
  id:3 * n≤p.id∧p.id≤3 * n + 2
  sw:0≤p.sw∧p.sw≤3
  speed:1≤p.speed∧p.speed≤400
  macs:p.macs=[macF (100 + n)]∨p.macs=[macF (100 + n),macF (200 + n)]
  a:(p.v4=fourA n∧p.v6=⟨false,0,0⟩)∨(p.v4=⟨false,0,0⟩∧p.v6=sixA n)∨(p.v4=fourA n∧p.v6=sixA n)
structure MGood (l:List Int) (asn:Int) (name:ByteArray) (n:Int) (m:Mem):Prop where
  asn:m.asn=asn
  name:m.name=name
  set:m.set=emptyS∨m.set=asA∨m.set=asB
  max4:0≤m.max4∧m.max4≤19
  max6:0≤m.max6∧m.max6≤19
  np:1≤m.ports.length∧m.ports.length≤2
  ports:∀ (i:Nat) (h:i < m.ports.length),PGood (n + 1 + i) m.ports[i]
  nil:l=[]→∀ p,p∈m.ports→p.v4≠⟨false,0,0⟩
def setAt (j:Nat):ByteArray:=if j=0 then emptyS else if j=1 then asA else asB
def speedAt (j:Nat):Int:=if j=0 then 1 else if j=1 then 10 else if j=2 then 100 else 400
theorem nat_of {x n:Int} (h:0≤x∧x < n):∃ j:Nat,x=(j:Int)∧(j:Int) < n:=⟨x.toNat,by omega,by omega⟩
set_option maxHeartbeats 2000000 in
theorem member_any (l:List Int) (at_:Nat) (asn:Int) (name:ByteArray) (n0:Int) (hn0:0≤n0∧n0≤100) (hl:l.length≤9223372036854775807) :
    ∃ v H',AFn Tryz.prog 38 2 [.own 0 0,.base (.int .i64 asn),.base (.string name),.own 1 0] (up (up mt 1 (some [.base (.int .i64 n0)])) 0 (some (deckC l at_))) v H' ∧
      ∃ (m:Mem) (at':Nat),MGood l asn name n0 m∧v=.agg (memC m)∧H'=up (up mt 1 (some [.base (.int .i64 (n0 + m.ports.length))])) 0 (some (deckC l at')):=by
  refine AFn.ex Tryz.func38 rfl rfl (Nat.le_of_ble_eq_true rfl) (Wq (qW 2 3 rfl rfl rfl (qB rfl ty95 (Nl ?_))))
  obtain ⟨j3,hj3,hj3b⟩:=nat_of (nextV_bd l at_ 3 (by decide))
  have x4:=nextV_bd l (nextAt l at_) 20 (by decide)
  have x6:=nextV_bd l (nextAt l (nextAt l at_)) 20 (by decide)
  have n1:=next_any l at_ 3 (by decide) (by decide) hl
  rw [hj3] at n1
  have n2:=next_any l (nextAt l at_) 20 (by decide) (by decide) hl
  have n3:=next_any l (nextAt l (nextAt l at_)) 20 (by decide) (by decide) hl
  generalize nextV l (nextAt l at_) 20=m4 at *
  generalize nextV l (nextAt l (nextAt l at_)) 20=m6 at *
  generalize nextAt l (nextAt l (nextAt l at_))=a0 at *
  generalize nextAt l (nextAt l at_)=b1 at *
  generalize nextAt l at_=b0 at *
  have hset:([.base (.string ⟨#[]⟩),.base (.string ⟨#[65,83,45,65]⟩),.base (.string ⟨#[65,83,45,66]⟩)]:List AV)[0 + j3 * 1]?=some (.base (.string (setAt j3))):=by
    match j3,hj3b with
    | 0,_=>rfl
    | 1,_=>rfl
    | 2,_=>rfl
    | k + 3,h=>omega
  refine Wq (Wd 7 21 (by decide) rfl mixed rfl (qM rfl rfl (qM rfl rfl (Od rfl rfl (LO.buildSlice rfl ty97 ty9 (by decide) (by decide) (.cons rfl rfl rfl rfl (Sl rfl) (.cons rfl rfl rfl rfl (Sl rfl) (.cons rfl rfl rfl rfl (Sl rfl) .nil)))) (qM rfl rfl (Od rfl rfl (C1 (fr:=[]) rfl rfl (n1) fok20 (.own rfl rfl (.cons rfl (.pure rfl) .nil)) rfl rfl rfl (Cn _ _) (by decide) rfl) (Od rfl rfl (Ia rfl rfl rfl rfl ty97 ty9 (by first|omega|decide|assumption|(simp;done)|(simp;omega))) (qL rfl rfl rfl hset ty9 rfl (qM rfl rfl (Od rfl rfl (C1 (fr:=[]) rfl rfl (n2) fok20 (.own rfl rfl (.cons rfl (.pure rfl) .nil)) rfl rfl rfl (Cn _ _) (by decide) rfl) (qM rfl rfl (Od rfl rfl (C1 (fr:=[]) rfl rfl (n3) fok20 (.own rfl rfl (.cons rfl (.pure rfl) .nil)) rfl rfl rfl (Cn _ _) (by decide) rfl) (Od rfl rfl (Bs rfl ty95 (.cons rfl rfl rfl rfl (Sl rfl) (.cons rfl rfl rfl rfl (Sl rfl) (.cons rfl rfl rfl rfl (Sl rfl) (.cons rfl rfl rfl rfl (Sl rfl) (.cons rfl rfl rfl rfl (Sl rfl) .nil)))))) (qB rfl ty95 (qS rfl rfl rfl rfl rfl ty95 rfl rfl (Sl rfl) (Nl ⟨by kernel_rfl,?_⟩))))))))))))))))
  have hs3:setAt j3=emptyS∨setAt j3=asA∨setAt j3=asB:=by
    unfold setAt
    split
    · exact .inl rfl
    · split
      · exact .inr (.inl rfl)
      · exact .inr (.inr rfl)
  generalize setAt j3=st at *
  refine W.namec 21 (21 + 1) (q:=19) (j:=5) (sz:=10) rfl rfl (Sl rfl) (by decide) (by decide) (by decide) ?_
  have k0:=nextV_bd l a0 2 (by decide)
  refine Wq (Wq (qW 25 29 rfl rfl rfl (qM rfl rfl (Od rfl rfl (C1 (fr:=[]) rfl rfl (next_any l a0 2 (by decide) (by decide) hl) fok20 (.own rfl rfl (.cons rfl (.pure rfl) .nil)) rfl rfl rfl (Cn _ _) (by decide) rfl) (qZ rfl rfl rfl (by (first|exact IntWalk.i64_in _ (by omega)|assumption)) (qA rfl rfl (Nl ?_)))))))
  generalize nextV l a0 2=k at k0
  generalize nextAt l a0=a1
  clear n1 n2 n3 hset hj3
  rw [show 1 + k=1 + k - (n0 - n0) from by omega]
  refine Wb (W.rename [(0,0),(1,1),(2,2),(3,19),(4,21)] 5 (T':=up (up (up (up (up mt 0 (some (.own 0 0))) 3 (some (.own 1 0))) 8 (some (.own 2 0))) 9 (some (.own 3 0))) 10 (some (.base (.int .i64 (1 + k - (n0 - n0)))))) (H':=up (up (up (up (up mt 0 (some (deckC l a1))) 1 (some ([.base (.int .i64 n0)]))) 2 (some ([.base (.int .i64 0),.base (.string ⟨#[]⟩),.base (.string ⟨#[]⟩),.base (.int .i64 0),.base (.int .i64 0),.nils]))) 3 (some ([.base (.int .i64 asn),.base (.string name),.base (.string st),.base (.int .i64 m4),.base (.int .i64 m6),.osl 4 0 (([]:List Prt)).length 10]))) 4 (some (prtsC (([]:List Prt))))) (by decide) ?_ ?_ ?_)
  · (repeat' (first|exact all_mt|refine all_up ?_ ?_))<;>first|exact .inl ⟨rfl,rfl⟩|exact .inr ⟨rfl,fun _ h=>by cases h⟩|exact .inl ⟨rfl,by first|rfl|assumption|exact (prtsC_pure _)⟩
  · (repeat' (first|exact all_mt|refine all_up ?_ ?_))<;>first|exact ⟨rfl,_,rfl,.inr ⟨rfl,rfl⟩⟩|exact ⟨rfl,_,rfl,.inl rfl⟩|exact ⟨rfl,_,rfl,.inr ⟨rfl,by first|rfl|assumption|exact (prtsC_pure _)⟩⟩
  refine W.loop_ind (α:=Int × List Prt × Nat) (fun x=>(2 + k - (x.1 - n0)).toNat) 5 (fun x=>up (up (up (up (up mt 0 (some (.own 0 0))) 3 (some (.own 1 0))) 8 (some (.own 2 0))) 9 (some (.own 3 0))) 10 (some (.base (.int .i64 (1 + k - (x.1 - n0)))))) (fun x=>up (up (up (up (up mt 0 (some (deckC l x.2.2))) 1 (some ([.base (.int .i64 x.1)]))) 2 (some ([.base (.int .i64 0),.base (.string ⟨#[]⟩),.base (.string ⟨#[]⟩),.base (.int .i64 0),.base (.int .i64 0),.nils]))) 3 (some ([.base (.int .i64 asn),.base (.string name),.base (.string st),.base (.int .i64 m4),.base (.int .i64 m6),.osl 4 0 x.2.1.length 10]))) 4 (some (prtsC x.2.1))) (fun x=>x.1=n0 + x.2.1.length∧(x.2.1.length:Int)≤1 + k∧(∀ (i:Nat) (h:i < x.2.1.length),PGood (n0 + 1 + i) x.2.1[i])∧(l=[]→∀ zz,zz∈x.2.1→zz.v4≠⟨false,0,0⟩)) (n0,(([]:List Prt)),a1) (show n0=n0 + (([]:List Prt)).length∧((([]:List Prt)).length:Int)≤1 + k∧(∀ (i:Nat) (h:i < (([]:List Prt)).length),PGood (n0 + 1 + i) (([]:List Prt))[i])∧(l=[]→∀ zz,zz∈(([]:List Prt))→zz.v4≠⟨false,0,0⟩) from ⟨by simp,by simp;omega,fun i h=>absurd h (Nat.not_lt_zero _),fun _ p hp=>absurd hp List.not_mem_nil⟩) ?_
  rintro ⟨n,ps,a⟩ hIA ihA
  try (dsimp only at hIA)
  try dsimp only
  obtain ⟨hn,hkl,hgd,hnil⟩:=hIA
  by_cases hc:0 < 1 + k - (n - n0)
  · have g1:decide (1 + k - (n - n0) > 0)=true:=decide_eq_true hc
    have hpl:ps.length < 2:=by omega
    obtain ⟨N,hN⟩:∃ N,N=n + 1:=⟨_,rfl⟩
    refine Wq (Wq (qW 33 35 rfl rfl rfl (qM rfl rfl (Od rfl rfl (Gt0 rfl rfl rfl) (Nl (Wt rfl ‹_› (Wk (Wq (Wb (Wq (qW 39 45 rfl rfl rfl (qM rfl rfl (Od rfl rfl (Nc rfl rfl) (qL rfl rfl rfl rfl ty3 rfl (qZ rfl rfl rfl (by (first|exact IntWalk.i64_in _ (by omega)|assumption)) (Od rfl rfl (Nc rfl rfl) (qS rfl rfl rfl rfl rfl ty3 rfl rfl (Sl rfl) (Nl ?_))))))))))))))))))
    rw [← hN]
    refine Wq (qW 49 53 rfl rfl rfl (qM rfl rfl (Od rfl rfl (Nc rfl rfl) (qL rfl rfl rfl rfl ty3 rfl (qA rfl rfl (Nl ?_))))))
    have y3:=nextV_bd l a 3 (by decide)
    have y4:=nextV_bd l (nextAt l a) 4 (by decide)
    obtain ⟨js,hjs,hjsb⟩:=nat_of (nextV_bd l (nextAt l (nextAt l a)) 4 (by decide))
    have n1:=next_any l a 3 (by decide) (by decide) hl
    have n2:=next_any l (nextAt l a) 4 (by decide) (by decide) hl
    have n3:=next_any l (nextAt l (nextAt l a)) 4 (by decide) (by decide) hl
    rw [hjs] at n3
    generalize nextV l a 3=id0 at *
    generalize nextV l (nextAt l a) 4=sw at *
    generalize nextAt l (nextAt l (nextAt l a))=b2 at *
    generalize nextAt l (nextAt l a)=b1 at *
    generalize nextAt l a=b0 at *
    have hsp:([.base (.int .i64 1),.base (.int .i64 10),.base (.int .i64 100),.base (.int .i64 400)]:List AV)[0 + js * 1]?=some (.base (.int .i64 (speedAt js))):=by
      match js,hjsb with
      | 0,_=>rfl
      | 1,_=>rfl
      | 2,_=>rfl
      | 3,_=>rfl
      | k + 4,h=>omega
    have hspb:1≤speedAt js∧speedAt js≤400:=by
      unfold speedAt
      repeat (first|omega|split)
    refine Wq (Wd 57 76 (by decide) rfl mixed rfl (qM rfl rfl (Od rfl rfl (LO.mul_in rfl rfl rfl (by (first|exact IntWalk.i64_in _ (by omega)|assumption))) (qM rfl rfl (Od rfl rfl (C1 (fr:=[]) rfl rfl (n1) fok20 (.own rfl rfl (.cons rfl (.pure rfl) .nil)) rfl rfl rfl (Cn _ _) (by decide) rfl) (qZ rfl rfl rfl (by (first|exact IntWalk.i64_in _ (by omega)|assumption)) (qM rfl rfl (Od rfl rfl (C1 (fr:=[]) rfl rfl (n2) fok20 (.own rfl rfl (.cons rfl (.pure rfl) .nil)) rfl rfl rfl (Cn _ _) (by decide) rfl) (Od rfl rfl (LO.buildSlice rfl ty27 ty3 (by decide) (by decide) (.cons rfl rfl rfl rfl (Sl rfl) (.cons rfl rfl rfl rfl (Sl rfl) (.cons rfl rfl rfl rfl (Sl rfl) (.cons rfl rfl rfl rfl (Sl rfl) .nil))))) (qM rfl rfl (Od rfl rfl (C1 (fr:=[]) rfl rfl (n3) fok20 (.own rfl rfl (.cons rfl (.pure rfl) .nil)) rfl rfl rfl (Cn _ _) (by decide) rfl) (Od rfl rfl (Ia rfl rfl rfl rfl ty27 ty3 (by first|omega|decide|assumption|(simp;done)|(simp;omega))) (qL rfl rfl rfl hsp ty3 rfl (qM rfl rfl (qZ rfl rfl rfl (by (first|exact IntWalk.i64_in _ (by omega)|assumption)) (Od rfl rfl (C0 (fr:=[]) rfl rfl (mac_any (100 + N)) fok76 (.cons rfl (.pure rfl) .nil) rfl) (Od rfl rfl (LO.buildSlice rfl ty32 ty23 (by decide) (by decide) (.cons rfl rfl rfl rfl (Sl rfl) .nil)) (Od rfl rfl (Bs rfl ty102 (.cons rfl rfl rfl rfl (Sl rfl) (.cons rfl rfl rfl rfl (Sl rfl) (.cons rfl rfl rfl rfl (Sl rfl) (.cons rfl rfl rfl rfl (Sl rfl) .nil))))) (qB rfl ty102 (qS rfl rfl rfl rfl rfl ty102 rfl rfl (Sl rfl) (Nl ⟨by kernel_rfl,?_⟩)))))))))))))))))))))
    generalize speedAt js=spd at *
    clear n1 n2 n3 hsp hjs
    refine Wq (W.joinK (α:=List (List Int) × Nat) 6 (fun x=>[(0,.own 0 0),(3,.own 1 0),(8,.own 2 0),(9,.own 3 0),(10,.base (.int .i64 (1 + k - (n - n0)))),(11,.base (.int .i64 N)),(12,.own 5 0)]) (fun x=>up (up (up (up (up (up mt 0 (some (deckC l x.2))) 1 (some ([.base (.int .i64 N)]))) 2 (some ([.base (.int .i64 0),.base (.string ⟨#[]⟩),.base (.string ⟨#[]⟩),.base (.int .i64 0),.base (.int .i64 0),.nils]))) 3 (some ([.base (.int .i64 asn),.base (.string name),.base (.string st),.base (.int .i64 m4),.base (.int .i64 m6),.osl 4 0 ps.length 10]))) 4 (some (prtsC ps))) 5 (some ([.base (.int .i64 (3 * N + id0)),.base (.int .i64 sw),.base (.int .i64 spd),.isl (macsC x.1) x.1.length,.base (.bool false),.base (.int .u64 0),.base (.int .u64 0),.base (.bool false),.base (.int .u64 0),.base (.int .u64 0)]))) (fun x=>x.1=[macF (100 + N)]∨x.1=[macF (100 + N),macF (200 + N)]) .nil ?_ ?_)
    rotate_left
    rintro ⟨ms,b⟩ hIJ
    try (dsimp only at hIJ)
    try dsimp only [joinT,baseT,List.cons_append,List.nil_append]
    rotate_right
    ·
      have n4:=next_any l b2 4 (by decide) (by decide) hl
      generalize nextV l b2 4=r at *
      generalize nextAt l b2=b3 at *
      cases k1:(r == 3)
      ·
        refine Wq (qW 80 83 rfl rfl rfl (qM rfl rfl (Od rfl rfl (C1 (fr:=[]) rfl rfl (n4) fok20 (.own rfl rfl (.cons rfl (.pure rfl) .nil)) rfl rfl rfl (Cn _ _) (by decide) rfl) (qE rfl rfl rfl (Nl (Wf rfl ‹_› (Wk ?_)))))))
        intro yJ KJ hJ
        refine Wv (q:=74) (j:=3) (r:=72) rfl rfl (by decide) rfl (Tl rfl) rfl (Sl rfl) (W.renameJ [(0,0),(1,1),(2,2),(3,3),(4,4),(5,74)] 6 (by decide) ?_ ?_ (hJ ([macF (100 + N)],b3) (show [macF (100 + N)]=[macF (100 + N)]∨[macF (100 + N)]=[macF (100 + N),macF (200 + N)] from .inl rfl)))
        · (repeat' (first|exact LookR.nil|refine LookR.cons ?_ ?_))<;>first|exact .inl ⟨rfl,rfl⟩|exact .inr ⟨rfl,fun _ h=>by cases h⟩|exact .inl ⟨rfl,by first|rfl|assumption|exact (prtsC_pure _)⟩
        · (repeat' (first|exact all_mt|refine all_up ?_ ?_))<;>first|exact ⟨rfl,_,rfl,.inr ⟨rfl,rfl⟩⟩|exact ⟨rfl,_,rfl,.inl rfl⟩|exact ⟨rfl,_,rfl,.inr ⟨rfl,by first|rfl|assumption|exact (prtsC_pure _)⟩⟩
      ·
        refine Wq (qW 80 83 rfl rfl rfl (qM rfl rfl (Od rfl rfl (C1 (fr:=[]) rfl rfl (n4) fok20 (.own rfl rfl (.cons rfl (.pure rfl) .nil)) rfl rfl rfl (Cn _ _) (by decide) rfl) (qE rfl rfl rfl (Nl (Wt rfl ‹_› (Wd 87 96 (by decide) rfl mixed rfl (qF rfl rfl ty102 rfl rfl (qL rfl rfl rfl rfl ty32 rfl (qM rfl rfl (qZ rfl rfl rfl (by (first|exact IntWalk.i64_in _ (by omega)|assumption)) (Od rfl rfl (C0 (fr:=[]) rfl rfl (mac_any (200 + N)) fok76 (.cons rfl (.pure rfl) .nil) rfl) (Od rfl rfl (LO.buildSlice rfl ty32 ty23 (by decide) (by decide) (.cons rfl rfl rfl rfl (Sl rfl) .nil)) (Od rfl rfl (Lap rfl rfl (Sso rfl rfl (Tl rfl)) rfl (Tl rfl) ty32 ty32 ty23 (by decide) (by first|omega|decide|assumption|(simp;done)|(simp;omega)) (by first|omega|decide|assumption|(simp;done)|(simp;omega)) (by first|decide|omega)) (qF rfl rfl ty102 rfl rfl (qS rfl rfl rfl rfl rfl ty32 rfl rfl (Sl rfl) (Nl ⟨by kernel_rfl,?_⟩)))))))))))))))))
        intro yJ KJ hJ
        refine Wv (q:=74) (j:=3) (r:=93) rfl rfl (by decide) rfl (Tl rfl) rfl (Sl rfl) (W.renameJ [(0,0),(1,1),(2,2),(3,3),(4,4),(5,74)] 6 (by decide) ?_ ?_ (hJ ([macF (100 + N),macF (200 + N)],b3) (show [macF (100 + N),macF (200 + N)]=[macF (100 + N)]∨[macF (100 + N),macF (200 + N)]=[macF (100 + N),macF (200 + N)] from .inr rfl)))
        · (repeat' (first|exact LookR.nil|refine LookR.cons ?_ ?_))<;>first|exact .inl ⟨rfl,rfl⟩|exact .inr ⟨rfl,fun _ h=>by cases h⟩|exact .inl ⟨rfl,by first|rfl|assumption|exact (prtsC_pure _)⟩
        · (repeat' (first|exact all_mt|refine all_up ?_ ?_))<;>first|exact ⟨rfl,_,rfl,.inr ⟨rfl,rfl⟩⟩|exact ⟨rfl,_,rfl,.inl rfl⟩|exact ⟨rfl,_,rfl,.inr ⟨rfl,by first|rfl|assumption|exact (prtsC_pure _)⟩⟩
    refine Wq (W.joinK (α:=Ad × Ad × Nat) 6 (fun x=>[(0,.own 0 0),(3,.own 1 0),(8,.own 2 0),(9,.own 3 0),(10,.base (.int .i64 (1 + k - (n - n0)))),(12,.own 5 0)]) (fun x=>up (up (up (up (up (up mt 0 (some (deckC l x.2.2))) 1 (some ([.base (.int .i64 N)]))) 2 (some ([.base (.int .i64 0),.base (.string ⟨#[]⟩),.base (.string ⟨#[]⟩),.base (.int .i64 0),.base (.int .i64 0),.nils]))) 3 (some ([.base (.int .i64 asn),.base (.string name),.base (.string st),.base (.int .i64 m4),.base (.int .i64 m6),.osl 4 0 ps.length 10]))) 4 (some (prtsC ps))) 5 (some (prtC ⟨3 * N + id0,sw,spd,ms,x.1,x.2.1⟩))) (fun x=>((x.1=fourA N∧x.2.1=(⟨false,0,0⟩:Ad))∨(x.1=(⟨false,0,0⟩:Ad)∧x.2.1=sixA N)∨(x.1=fourA N∧x.2.1=sixA N))∧(l=[]→x.1≠(⟨false,0,0⟩:Ad))) .nil ?_ ?_)
    rotate_left
    rintro ⟨v4,v6,c⟩ hIK
    try (dsimp only at hIK)
    try dsimp only [joinT,baseT,List.cons_append,List.nil_append]
    rotate_right
    ·
      have n4:=next_any l b 4 (by decide) (by decide) hl
      have hz:l=[]→nextV l b 4=0:=fun h=>by rw [h];exact nextV_nil _ _
      generalize nextV l b 4=r at *
      generalize nextAt l b=b3 at *
      cases k1:(r == 0)
      ·
        cases k2:(r == 1)
        ·
          refine Wq (qW 100 102 rfl rfl rfl (qM rfl rfl (Od rfl rfl (C1 (fr:=[]) rfl rfl (n4) fok20 (.own rfl rfl (.cons rfl (.pure rfl) .nil)) rfl rfl rfl (Cn _ _) (by decide) rfl) (Nl (Wb (Wq (qW 106 108 rfl rfl rfl (qE rfl rfl rfl (qA rfl rfl (Nl (Wf rfl ‹_› (Wq (qW 120 122 rfl rfl rfl (qE rfl rfl rfl (qA rfl rfl (Nl (Wf rfl ‹_› (qW 134 142 rfl rfl rfl (qM rfl rfl (Od rfl rfl (C0 (fr:=[]) rfl rfl (fourM_any N (by omega) (by omega)) fok46 (.cons rfl (.pure rfl) .nil) rfl) (qM rfl rfl (Od rfl rfl (C0 (fr:=[]) rfl rfl (sixM_any N (by omega) (by omega)) fok51 (.cons rfl (.pure rfl) .nil) rfl) (qF rfl rfl ty102 rfl rfl (qS rfl rfl rfl rfl rfl ty42 rfl rfl (Sl rfl) (qF rfl rfl ty102 rfl rfl (qS rfl rfl rfl rfl rfl ty42 rfl rfl (Sl rfl) (Nl ?_)))))))))))))))))))))))))))
          intro yJ KJ hJ
          refine W.renameJ [(0,0),(1,1),(2,2),(3,3),(4,4),(5,5)] 6 (by decide) ?_ ?_ (hJ ((fourA N),(sixA N),b3) (show (((fourA N)=fourA N∧(sixA N)=(⟨false,0,0⟩:Ad))∨((fourA N)=(⟨false,0,0⟩:Ad)∧(sixA N)=sixA N)∨((fourA N)=fourA N∧(sixA N)=sixA N))∧(l=[]→(fourA N)≠(⟨false,0,0⟩:Ad)) from ⟨.inr (.inr ⟨rfl,rfl⟩),fun h=>by rw [hz h] at k1;cases k1⟩))
          · (repeat' (first|exact LookR.nil|refine LookR.cons ?_ ?_))<;>first|exact .inl ⟨rfl,rfl⟩|exact .inr ⟨rfl,fun _ h=>by cases h⟩|exact .inl ⟨rfl,by first|rfl|assumption|exact (prtsC_pure _)⟩
          · (repeat' (first|exact all_mt|refine all_up ?_ ?_))<;>first|exact ⟨rfl,_,rfl,.inr ⟨rfl,rfl⟩⟩|exact ⟨rfl,_,rfl,.inl rfl⟩|exact ⟨rfl,_,rfl,.inr ⟨rfl,by first|rfl|assumption|exact (prtsC_pure _)⟩⟩
        ·
          refine Wq (qW 100 102 rfl rfl rfl (qM rfl rfl (Od rfl rfl (C1 (fr:=[]) rfl rfl (n4) fok20 (.own rfl rfl (.cons rfl (.pure rfl) .nil)) rfl rfl rfl (Cn _ _) (by decide) rfl) (Nl (Wb (Wq (qW 106 108 rfl rfl rfl (qE rfl rfl rfl (qA rfl rfl (Nl (Wf rfl ‹_› (Wq (qW 120 122 rfl rfl rfl (qE rfl rfl rfl (qA rfl rfl (Nl (Wt rfl ‹_› (qW 126 130 rfl rfl rfl (qM rfl rfl (Od rfl rfl (C0 (fr:=[]) rfl rfl (sixM_any N (by omega) (by omega)) fok51 (.cons rfl (.pure rfl) .nil) rfl) (qF rfl rfl ty102 rfl rfl (qS rfl rfl rfl rfl rfl ty42 rfl rfl (Sl rfl) (Nl ?_)))))))))))))))))))))))
          intro yJ KJ hJ
          refine W.renameJ [(0,0),(1,1),(2,2),(3,3),(4,4),(5,5)] 6 (by decide) ?_ ?_ (hJ (((⟨false,0,0⟩:Ad)),(sixA N),b3) (show ((((⟨false,0,0⟩:Ad))=fourA N∧(sixA N)=(⟨false,0,0⟩:Ad))∨(((⟨false,0,0⟩:Ad))=(⟨false,0,0⟩:Ad)∧(sixA N)=sixA N)∨(((⟨false,0,0⟩:Ad))=fourA N∧(sixA N)=sixA N))∧(l=[]→((⟨false,0,0⟩:Ad))≠(⟨false,0,0⟩:Ad)) from ⟨.inr (.inl ⟨rfl,rfl⟩),fun h=>by rw [hz h] at k1;cases k1⟩))
          · (repeat' (first|exact LookR.nil|refine LookR.cons ?_ ?_))<;>first|exact .inl ⟨rfl,rfl⟩|exact .inr ⟨rfl,fun _ h=>by cases h⟩|exact .inl ⟨rfl,by first|rfl|assumption|exact (prtsC_pure _)⟩
          · (repeat' (first|exact all_mt|refine all_up ?_ ?_))<;>first|exact ⟨rfl,_,rfl,.inr ⟨rfl,rfl⟩⟩|exact ⟨rfl,_,rfl,.inl rfl⟩|exact ⟨rfl,_,rfl,.inr ⟨rfl,by first|rfl|assumption|exact (prtsC_pure _)⟩⟩
      ·
        have hf:fourA N≠(⟨false,0,0⟩:Ad):=fun h=>by
          have:=congrArg Ad.lo h
          unfold fourA at this
          dsimp only at this
          omega
        refine Wq (qW 100 102 rfl rfl rfl (qM rfl rfl (Od rfl rfl (C1 (fr:=[]) rfl rfl (n4) fok20 (.own rfl rfl (.cons rfl (.pure rfl) .nil)) rfl rfl rfl (Cn _ _) (by decide) rfl) (Nl (Wb (Wq (qW 106 108 rfl rfl rfl (qE rfl rfl rfl (qA rfl rfl (Nl (Wt rfl ‹_› (qW 112 116 rfl rfl rfl (qM rfl rfl (Od rfl rfl (C0 (fr:=[]) rfl rfl (fourM_any N (by omega) (by omega)) fok46 (.cons rfl (.pure rfl) .nil) rfl) (qF rfl rfl ty102 rfl rfl (qS rfl rfl rfl rfl rfl ty42 rfl rfl (Sl rfl) (Nl ?_)))))))))))))))))
        intro yJ KJ hJ
        refine W.renameJ [(0,0),(1,1),(2,2),(3,3),(4,4),(5,5)] 6 (by decide) ?_ ?_ (hJ ((fourA N),((⟨false,0,0⟩:Ad)),b3) (show (((fourA N)=fourA N∧((⟨false,0,0⟩:Ad))=(⟨false,0,0⟩:Ad))∨((fourA N)=(⟨false,0,0⟩:Ad)∧((⟨false,0,0⟩:Ad))=sixA N)∨((fourA N)=fourA N∧((⟨false,0,0⟩:Ad))=sixA N))∧(l=[]→(fourA N)≠(⟨false,0,0⟩:Ad)) from ⟨.inl ⟨rfl,rfl⟩,fun _=>hf⟩))
        · (repeat' (first|exact LookR.nil|refine LookR.cons ?_ ?_))<;>first|exact .inl ⟨rfl,rfl⟩|exact .inr ⟨rfl,fun _ h=>by cases h⟩|exact .inl ⟨rfl,by first|rfl|assumption|exact (prtsC_pure _)⟩
        · (repeat' (first|exact all_mt|refine all_up ?_ ?_))<;>first|exact ⟨rfl,_,rfl,.inr ⟨rfl,rfl⟩⟩|exact ⟨rfl,_,rfl,.inl rfl⟩|exact ⟨rfl,_,rfl,.inr ⟨rfl,by first|rfl|assumption|exact (prtsC_pure _)⟩⟩
    have hJ:=‹ms=_∨_›
    obtain ⟨hva,hvn⟩:=‹((v4=_∧_)∨_)∧_›
    obtain ⟨p,hp⟩:∃ p:Prt,(⟨3 * N + id0,sw,spd,ms,v4,v6⟩:Prt)=p:=⟨_,rfl⟩
    rw [hp]
    have hpg:PGood N p:=by
      rw [← hp]
      exact ⟨by dsimp only;omega,by dsimp only;omega,hspb,hJ,hva⟩
    refine qW 146 153 rfl rfl rfl (qF rfl rfl ty95 rfl rfl (qL rfl rfl rfl rfl ty93 rfl (qG rfl rfl rfl ty102 rfl (Tl rfl) (Od rfl rfl (LO.buildSlice rfl ty93 ty102 (by decide) (by decide) (.cons rfl rfl rfl rfl (Sl rfl) .nil)) (Od rfl rfl (Lap rfl rfl (Sso rfl rfl (Tl rfl)) rfl (prts_all rfl) ty93 ty93 ty102 (by decide) (by first|omega|decide|assumption|(simp;done)|(simp;omega)) (by first|omega|decide|assumption|(simp;done)|(simp;omega)) (by first|decide|omega)) (qF rfl rfl ty95 rfl rfl (qS rfl rfl rfl rfl rfl ty93 rfl rfl (Sl rfl) (Nl ?_))))))))
    rw [show prtsC ps++[.base (.int .i64 p.id),.base (.int .i64 p.sw),.base (.int .i64 p.speed),.isl (macsC p.macs) p.macs.length,.base (.bool p.v4.v6),.base (.int .u64 p.v4.hi),.base (.int .u64 p.v4.lo),.base (.bool p.v6.v6),.base (.int .u64 p.v6.hi),.base (.int .u64 p.v6.lo)]=prtsC (ps++[p]) from by simp [prtsC,prtC,adC],show ps.length + 1=(ps++[p]).length from by simp]
    refine qW 157 160 rfl rfl rfl (qM rfl rfl (Od rfl rfl (LO.sub_in rfl rfl rfl (by (first|exact IntWalk.i64_in _ (by omega)|assumption))) (qA rfl rfl (Nl ?_))))
    rw [show 1 + k - (n - n0) - 1=1 + k - (N - n0) from by omega]
    have hgd':∀ (i:Nat) (h:i < (ps++[p]).length),PGood (n0 + 1 + i) (ps++[p])[i]:=fun i h=>by
      rw [List.length_append,List.length_singleton] at h
      rcases Nat.lt_or_ge i ps.length with h1|h1
      · rw [List.getElem_append_left h1];exact hgd i h1
      · obtain rfl:i=ps.length:=by omega
        rw [List.getElem_append_right (Nat.le_refl _)]
        simp only [Nat.sub_self,List.getElem_cons_zero]
        rw [show n0 + 1 + (ps.length:Int)=N from by omega]
        exact hpg
    have hnil':l=[]→∀ q,q∈ps++[p]→q.v4≠⟨false,0,0⟩:=fun h q hq=>by
      rcases List.mem_append.1 hq with h1|h1
      · exact hnil h q h1
      · simp at h1;rw [h1,← hp];exact hvn h
    refine WL.rename [(0,0),(1,1),(2,2),(3,3),(4,150)] 5 (by decide) ?_ ?_ (ihA (N,(ps++[p]),c) (show (2 + k - (N - n0)).toNat < (2 + k - (n - n0)).toNat from by omega) (show N=n0 + (ps++[p]).length∧((ps++[p]).length:Int)≤1 + k∧(∀ (i:Nat) (h:i < (ps++[p]).length),PGood (n0 + 1 + i) (ps++[p])[i])∧(l=[]→∀ zz,zz∈(ps++[p])→zz.v4≠⟨false,0,0⟩) from ⟨by rw [List.length_append,List.length_singleton];omega,by rw [List.length_append,List.length_singleton];omega,hgd',hnil'⟩))
    · (repeat' (first|exact all_mt|refine all_up ?_ ?_))<;>first|exact .inl ⟨rfl,rfl⟩|exact .inr ⟨rfl,fun _ h=>by cases h⟩|exact .inl ⟨rfl,by first|rfl|assumption|exact (prtsC_pure _)⟩
    · (repeat' (first|exact all_mt|refine all_up ?_ ?_))<;>first|exact ⟨rfl,_,rfl,.inr ⟨rfl,rfl⟩⟩|exact ⟨rfl,_,rfl,.inl rfl⟩|exact ⟨rfl,_,rfl,.inr ⟨rfl,by first|rfl|assumption|exact (prtsC_pure _)⟩⟩
  · have g1:decide (1 + k - (n - n0) > 0)=false:=decide_eq_false hc
    refine Wq (Wq (qW 33 35 rfl rfl rfl (qM rfl rfl (Od rfl rfl (Gt0 rfl rfl rfl) (Nl (Wf rfl ‹_› (Wx ?_)))))))
    clear ihA
    refine Wv (q:=3) (j:=5) (r:=4) rfl rfl (by decide) rfl (prts_all rfl) (prtsC_pure _) (Sl rfl) (Wq (qW 164 166 rfl rfl rfl (qG rfl rfl rfl ty95 rfl (Tl rfl) (qS rfl rfl rfl rfl rfl ty95 rfl rfl (Sl rfl) (Nl ?_)))))
    refine W.ret ⟨.inl rfl,_,up (up mt 1 (some [.base (.int .i64 n)])) 0 (some (deckC l a)),(RVs.cons (RV.cellA rfl rfl ty95 rfl (Tk.lit rfl)) RVs.nil),(by (repeat' (first|exact all_mt|refine all_up ?_ ?_))<;>rfl),?_⟩
    exact ⟨⟨asn,name,st,m4,m6,ps⟩,a,⟨rfl,rfl,hs3,by dsimp only;omega,by dsimp only;omega,by dsimp only;omega,hgd,hnil⟩,rfl,by rw [hn]⟩
end Go.Proofs.YtcidmiacfjdepaaGreatDoor
