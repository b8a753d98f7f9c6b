/-
  The database that the generator makes.
-/
import Derived.Test.YtcidmiacfjdepaaGreatDoorJk
import Derived.Test.YtcidmiacfjdepaaGreatDoorMab
namespace Go.Proofs.YtcidmiacfjdepaaGreatDoor
open Go.RowKit
def srvN (j:Nat):ByteArray:=if j=0 then ⟨#[114,115,45,49]⟩ else ⟨#[114,115,45,50]⟩
def mbrN (j:Nat):ByteArray:=if j=0 then ⟨#[97]⟩ else if j=1 then ⟨#[98,45,50]⟩ else if j=2 then ⟨#[67,58,51]⟩ else if j=3 then ⟨#[100,101,108,116,97]⟩ else ⟨#[101]⟩
def cntP (l:List Mem):Int:=((l.flatMap (·.ports)).length:Nat)
structure DbMade (l:List Int) (d:Db):Prop where
  l4:d.lan4=lan4
  l6:d.lan6=lan6
  ns:d.servers.length≤2
  nm:2≤d.members.length∧d.members.length≤5
  srv:∀ (j:Nat) (h:j < d.servers.length),MGood l 65000 (srvN j) (cntP (d.servers.take j)) d.servers[j]
  mbr:∀ (j:Nat) (h:j < d.members.length),MGood l (1 + 7 * j) (mbrN j) (cntP (d.servers++d.members.take j)) d.members[j]
theorem mems_all' {l:List Mem}:Tk (memsC l) 0 (l.length * 6) (memsC l):=mems_all rfl
theorem cntP_snoc (X:List Mem) (m:Mem):cntP (X++[m])=cntP X + m.ports.length:=by simp [cntP]
theorem take_snoc' {α:Type} {l:List α} {m:α} {j:Nat} (h:j≤l.length):(l++[m]).take j=l.take j:=List.take_append_of_le_length h
/-- the loop's step -/
theorem good_snoc {P:Nat→List Mem→Mem→Prop} {ms:List Mem} {m:Mem} (h:∀ (j:Nat) (h:j < ms.length),P j (ms.take j) ms[j]) (hm:P ms.length ms m):∀ (j:Nat) (h:j < (ms++[m]).length),P j ((ms++[m]).take j) (ms++[m])[j]:=fun j hj=>by
  rw [List.length_append,List.length_singleton] at hj
  rw [take_snoc' (by omega)]
  rcases Nat.lt_or_ge j ms.length with h1|h1
  · rw [List.getElem_append_left h1];exact h j h1
  · obtain rfl:j=ms.length:=by omega
    rw [List.getElem_append_right (Nat.le_refl _),List.take_length]
    simpa using hm
set_option maxHeartbeats 2000000 in
theorem database_any (l:List Int) (at_:Nat) (hl:l.length≤9223372036854775807) :
    ∃ v H',AFn Tryz.prog 14 1 [.own 0 0] (up mt 0 (some (deckC l at_))) v H' ∧
      ∃ (d:Db) (at':Nat),DbMade l d∧v=.agg (dbC d)∧H'=up mt 0 (some (deckC l at')):=by
  refine AFn.ex Tryz.func14 rfl rfl (Nat.le_of_ble_eq_true rfl) (Wq (qW 1 2 rfl rfl rfl (qB rfl ty53 (Nl (Wq (qW 6 11 rfl rfl rfl (Od rfl rfl (C0 (fr:=[]) rfl rfl (lan4_any) fok36 .nil rfl) (Od rfl rfl (C0 (fr:=[]) rfl rfl (lan6_any) fok37 .nil rfl) (Od rfl rfl (Bs rfl ty53 (.cons rfl rfl rfl rfl (Sl rfl) (.cons rfl rfl rfl rfl (Sl rfl) .nil))) (qB rfl ty53 (qS rfl rfl rfl rfl rfl ty53 rfl rfl (Sl rfl) (Nl (Wq (qW 15 17 rfl rfl rfl (qB rfl ty3 (qS rfl rfl rfl rfl rfl ty3 rfl rfl (Sl rfl) (Nl (W.namec 17 (17 + 1) (q:=9) (j:=8) (sz:=6) rfl rfl (Sl rfl) (by decide) (by decide) (by decide) ?_))))))))))))))))))
  obtain ⟨c,hc,hcb⟩:=nat_of (nextV_bd l at_ 3 (by decide))
  have n1:=next_any l at_ 3 (by decide) (by decide) hl
  rw [hc] at n1
  generalize nextAt l at_=a1 at *
  clear hc
  refine Wq (Wq (qW 21 24 rfl rfl rfl (qM rfl rfl (Od rfl rfl (C1 (fr:=[]) rfl rfl (n1) fok20 (.own rfl rfl (.cons rfl (.pure rfl) .nil)) rfl rfl rfl (Cn _ _) (by decide) rfl) (qM rfl rfl (Nl (Wb (W.rename [(0,0),(1,1),(2,9),(3,15),(4,17)] 5 (T':=up (up (up (up (up (up mt 0 (some (.own 0 0))) 2 (some (.own 1 0))) 3 (some (.own 2 0))) 4 (some (.own 3 0))) 11 (some (.base (.int .i64 (c:Int))))) 12 (some (.base (.int .i64 (0:Int))))) (H':=up (up (up (up (up mt 0 (some (deckC l a1))) 1 (some ([.base (.bool false),.base (.int .u64 0),.base (.int .u64 0),.base (.int .i64 0),.base (.bool false),.base (.int .u64 0),.base (.int .u64 0),.base (.int .i64 0),.nils,.nils]))) 2 (some (preC lan4++preC lan6++[.osl 4 0 (([]:List Mem)).length 6,.nils]))) 3 (some ([.base (.int .i64 (cntP (([]:List Mem))))]))) 4 (some (memsC (([]:List Mem))))) (by decide) ?_ ?_ ?_))))))))
  · (repeat' (first|exact all_mt|refine all_up ?_ ?_))<;>first|exact .inl ⟨rfl,rfl⟩|exact .inr ⟨rfl,fun _ h=>by cases h⟩|exact .inl ⟨rfl,by first|rfl|assumption|exact (memsC_pure _)⟩
  · (repeat' (first|exact all_mt|refine all_up ?_ ?_))<;>first|exact ⟨rfl,_,rfl,.inr ⟨rfl,rfl⟩⟩|exact ⟨rfl,_,rfl,.inl rfl⟩|exact ⟨rfl,_,rfl,.inr ⟨rfl,by first|rfl|assumption|exact (memsC_pure _)⟩⟩
  refine W.loop_ind (α:=Nat × List Mem × Nat) (fun x=>c - x.1) 5 (fun x=>up (up (up (up (up (up mt 0 (some (.own 0 0))) 2 (some (.own 1 0))) 3 (some (.own 2 0))) 4 (some (.own 3 0))) 11 (some (.base (.int .i64 (c:Int))))) 12 (some (.base (.int .i64 (x.1:Int))))) (fun x=>up (up (up (up (up mt 0 (some (deckC l x.2.2))) 1 (some ([.base (.bool false),.base (.int .u64 0),.base (.int .u64 0),.base (.int .i64 0),.base (.bool false),.base (.int .u64 0),.base (.int .u64 0),.base (.int .i64 0),.nils,.nils]))) 2 (some (preC lan4++preC lan6++[.osl 4 0 x.2.1.length 6,.nils]))) 3 (some ([.base (.int .i64 (cntP x.2.1))]))) 4 (some (memsC x.2.1))) (fun x=>(x.1≤c∧x.2.1.length=x.1∧cntP x.2.1≤2 * x.1)∧∀ (jj:Nat) (h:jj < x.2.1.length),MGood l 65000 (srvN jj) (cntP (x.2.1.take jj)) x.2.1[jj]) (0,(([]:List Mem)),a1) (show (0≤c∧(([]:List Mem)).length=0∧cntP (([]:List Mem))≤2 * 0)∧∀ (jj:Nat) (h:jj < (([]:List Mem)).length),MGood l 65000 (srvN jj) (cntP ((([]:List Mem)).take jj)) (([]:List Mem))[jj] from ⟨⟨Nat.zero_le _,rfl,by decide⟩,fun j h=>absurd h (Nat.not_lt_zero _)⟩) ?_
  rintro ⟨i,ss,a⟩ hIA ihA
  try (dsimp only at hIA)
  try dsimp only
  obtain ⟨⟨hi,hlen,hct⟩,hgd⟩:=hIA
  by_cases hcc:i < c
  · have g1:decide ((i:Int) < (c:Int))=true:=decide_eq_true (by omega)
    have hi2:i < 2:=by omega
    have hname:([.base (.string ⟨#[114,115,45,49]⟩),.base (.string ⟨#[114,115,45,50]⟩)]:List AV)[0 + i * 1]?=some (.base (.string (srvN i))):=by
      match i,hi2 with
      | 0,_=>rfl
      | 1,_=>rfl
    obtain ⟨vm,Hm,hm,m,a2,hmg,rfl,rfl⟩:=member_any l a 65000 (srvN i) (cntP ss) (by unfold cntP at hct ⊢;omega) hl
    have hgs:=good_snoc (P:=fun j x y=>MGood l 65000 (srvN j) (cntP x) y) hgd (by rw [hlen];exact hmg)
    generalize srvN i=nm at *
    refine Wq (qW 28 29 rfl rfl rfl (qK rfl rfl rfl (Nl (Wq (Wt rfl ‹_› (Wk (Wq (Wb (Wq (qW 33 35 rfl rfl rfl (qM rfl rfl (qA rfl rfl (Nl (Wd 39 51 (by decide) rfl mixed rfl (qF rfl rfl ty53 rfl rfl (qL rfl rfl rfl rfl ty51 rfl (qM rfl rfl (Od rfl rfl (LO.buildSlice rfl ty97 ty9 (by decide) (by decide) (.cons rfl rfl rfl rfl (Sl rfl) (.cons rfl rfl rfl rfl (Sl rfl) .nil))) (qM rfl rfl (Od rfl rfl (Ia rfl rfl rfl rfl ty97 ty9 (by first|omega|decide|assumption|(simp;done)|(simp;omega))) (qL rfl rfl rfl hname ty9 rfl (Od rfl rfl (LO.call2 (fr:=[]) (q0:=0) (q1:=3) rfl rfl hm fok38 (.own 0 rfl rfl (.cons rfl (.pure rfl) (.cons rfl (.pure rfl) (.own 1 rfl rfl .nil)))) (by decide) (by decide) (by decide) rfl rfl rfl rfl rfl rfl (Cn _ _) (Cn _ _) rfl) (Od rfl rfl (LO.buildSlice rfl ty51 ty95 (by decide) (by decide) (.cons rfl rfl rfl rfl (Sl rfl) .nil)) (Od rfl rfl (Lap rfl rfl (Sso rfl rfl (Tl rfl)) rfl mems_all' ty51 ty51 ty95 (by decide) (by first|omega|decide|assumption|(simp;done)|(simp;omega)) (by first|omega|decide|assumption|(simp;done)|(simp;omega)) (by first|decide|omega)) (qF rfl rfl ty53 rfl rfl (qS rfl rfl rfl rfl rfl ty51 rfl rfl (Sl rfl) (Nl ⟨by kernel_rfl,?_⟩)))))))))))))))))))))))))))
    rw [show memsC ss++[.base (.int .i64 m.asn),.base (.string m.name),.base (.string m.set),.base (.int .i64 m.max4),.base (.int .i64 m.max6),.isl (prtsC m.ports) m.ports.length]=memsC (ss++[m]) from by simp [memsC,memC],show ss.length + 1=(ss++[m]).length from by simp]
    refine qW 55 57 rfl rfl rfl (qZ rfl rfl rfl (by (first|exact IntWalk.i64_in _ (by omega)|assumption)) (qM rfl rfl (Nl ?_)))
    rw [← cntP_snoc]
    refine WL.rename [(0,0),(1,1),(2,2),(3,3),(4,48)] 5 (by decide) ?_ ?_ (ihA ((i + 1),(ss++[m]),a2) (show c - (i + 1) < c - i from by omega) (show ((i + 1)≤c∧(ss++[m]).length=(i + 1)∧cntP (ss++[m])≤2 * (i + 1))∧∀ (jj:Nat) (h:jj < (ss++[m]).length),MGood l 65000 (srvN jj) (cntP ((ss++[m]).take jj)) (ss++[m])[jj] from ⟨⟨by omega,by rw [List.length_append,List.length_singleton];omega,by rw [cntP_snoc];have:=hmg.np;omega⟩,hgs⟩))
    · (repeat' (first|exact all_mt|refine all_up ?_ ?_))<;>first|exact .inl ⟨rfl,rfl⟩|exact .inr ⟨rfl,fun _ h=>by cases h⟩|exact .inl ⟨rfl,by first|rfl|assumption|exact (memsC_pure _)⟩
    · (repeat' (first|exact all_mt|refine all_up ?_ ?_))<;>first|exact ⟨rfl,_,rfl,.inr ⟨rfl,rfl⟩⟩|exact ⟨rfl,_,rfl,.inl rfl⟩|exact ⟨rfl,_,rfl,.inr ⟨rfl,by first|rfl|assumption|exact (memsC_pure _)⟩⟩
  · have g1:decide ((i:Int) < (c:Int))=false:=decide_eq_false (by omega)
    refine Wq (qW 28 29 rfl rfl rfl (qK rfl rfl rfl (Nl (Wq (Wf rfl ‹_› (Wx ?_))))))
    clear ihA
    refine Wv (q:=2) (j:=8) (r:=4) rfl rfl (by decide) rfl (mems_all rfl) (memsC_pure _) (Sl rfl) ?_
    have hss:ss.length≤2:=by omega
    obtain ⟨e,he,heb⟩:=nat_of (nextV_bd l a 4 (by decide))
    have n2:=next_any l a 4 (by decide) (by decide) hl
    rw [he] at n2
    generalize nextAt l a=a3 at *
    clear he
    refine Wq (Wq (qW 61 65 rfl rfl rfl (qM rfl rfl (Od rfl rfl (C1 (fr:=[]) rfl rfl (n2) fok20 (.own rfl rfl (.cons rfl (.pure rfl) .nil)) rfl rfl rfl (Cn _ _) (by decide) rfl) (qZ rfl rfl rfl (by (first|exact IntWalk.i64_in _ (by omega)|assumption)) (qM rfl rfl (Nl (W.namec 65 (65 + 1) (q:=2) (j:=9) (sz:=6) rfl rfl (Sl rfl) (by decide) (by decide) (by decide) ?_))))))))
    rw [show cntP ss=cntP (ss++[]) from by rw [List.append_nil]]
    refine Wb (W.rename [(0,0),(1,1),(2,2),(3,3),(4,65)] 5 (T':=up (up (up (up (up (up mt 0 (some (.own 0 0))) 2 (some (.own 1 0))) 3 (some (.own 2 0))) 4 (some (.own 3 0))) 29 (some (.base (.int .i64 (2 + (e:Int)))))) 30 (some (.base (.int .i64 (0:Int))))) (H':=up (up (up (up (up mt 0 (some (deckC l a3))) 1 (some ([.base (.bool false),.base (.int .u64 0),.base (.int .u64 0),.base (.int .i64 0),.base (.bool false),.base (.int .u64 0),.base (.int .u64 0),.base (.int .i64 0),.nils,.nils]))) 2 (some (preC lan4++preC lan6++[.isl (memsC ss) ss.length,.osl 4 0 (([]:List Mem)).length 6]))) 3 (some ([.base (.int .i64 (cntP (ss++(([]:List Mem)))))]))) 4 (some (memsC (([]:List Mem))))) (by decide) ?_ ?_ ?_)
    · (repeat' (first|exact all_mt|refine all_up ?_ ?_))<;>first|exact .inl ⟨rfl,rfl⟩|exact .inr ⟨rfl,fun _ h=>by cases h⟩|exact .inl ⟨rfl,by first|rfl|assumption|exact (memsC_pure _)⟩
    · (repeat' (first|exact all_mt|refine all_up ?_ ?_))<;>first|exact ⟨rfl,_,rfl,.inr ⟨rfl,rfl⟩⟩|exact ⟨rfl,_,rfl,.inl rfl⟩|exact ⟨rfl,_,rfl,.inr ⟨rfl,by first|rfl|assumption|exact (memsC_pure _)⟩⟩
    refine W.loop_ind (α:=Nat × List Mem × Nat) (fun x=>2 + e - x.1) 5 (fun x=>up (up (up (up (up (up mt 0 (some (.own 0 0))) 2 (some (.own 1 0))) 3 (some (.own 2 0))) 4 (some (.own 3 0))) 29 (some (.base (.int .i64 (2 + (e:Int)))))) 30 (some (.base (.int .i64 (x.1:Int))))) (fun x=>up (up (up (up (up mt 0 (some (deckC l x.2.2))) 1 (some ([.base (.bool false),.base (.int .u64 0),.base (.int .u64 0),.base (.int .i64 0),.base (.bool false),.base (.int .u64 0),.base (.int .u64 0),.base (.int .i64 0),.nils,.nils]))) 2 (some (preC lan4++preC lan6++[.isl (memsC ss) ss.length,.osl 4 0 x.2.1.length 6]))) 3 (some ([.base (.int .i64 (cntP (ss++x.2.1)))]))) 4 (some (memsC x.2.1))) (fun x=>(x.1≤2 + e∧x.2.1.length=x.1∧cntP (ss++x.2.1)≤4 + 2 * x.1)∧∀ (jj:Nat) (h:jj < x.2.1.length),MGood l (1 + 7 * jj) (mbrN jj) (cntP (ss++x.2.1.take jj)) x.2.1[jj]) (0,(([]:List Mem)),a3) (show (0≤2 + e∧(([]:List Mem)).length=0∧cntP (ss++(([]:List Mem)))≤4 + 2 * 0)∧∀ (jj:Nat) (h:jj < (([]:List Mem)).length),MGood l (1 + 7 * jj) (mbrN jj) (cntP (ss++(([]:List Mem)).take jj)) (([]:List Mem))[jj] from ⟨⟨Nat.zero_le _,rfl,by rw [List.append_nil];omega⟩,fun j h=>absurd h (Nat.not_lt_zero _)⟩) ?_
    rintro ⟨i2,mm,b⟩ hIB ihB
    try (dsimp only at hIB)
    try dsimp only
    obtain ⟨⟨hi2,hlen2,hct2⟩,hgd2⟩:=hIB
    by_cases hcc2:i2 < 2 + e
    · have g2:decide ((i2:Int) < 2 + (e:Int))=true:=decide_eq_true (by omega)
      have hi5:i2 < 5:=by omega
      have hname:([.base (.string ⟨#[97]⟩),.base (.string ⟨#[98,45,50]⟩),.base (.string ⟨#[67,58,51]⟩),.base (.string ⟨#[100,101,108,116,97]⟩),.base (.string ⟨#[101]⟩)]:List AV)[0 + i2 * 1]?=some (.base (.string (mbrN i2))):=by
        match i2,hi5 with
        | 0,_=>rfl
        | 1,_=>rfl
        | 2,_=>rfl
        | 3,_=>rfl
        | 4,_=>rfl
      obtain ⟨vm,Hm,hm,m,a4,hmg,rfl,rfl⟩:=member_any l b (1 + 7 * (i2:Int)) (mbrN i2) (cntP (ss++mm)) (by unfold cntP at hct2 ⊢;omega) hl
      have hgs:=good_snoc (P:=fun j x y=>MGood l (1 + 7 * (j:Int)) (mbrN j) (cntP (ss++x)) y) hgd2 (by rw [hlen2];exact hmg)
      generalize mbrN i2=nm at *
      refine Wq (qW 69 70 rfl rfl rfl (qK rfl rfl rfl (Nl (Wq (Wt rfl ‹_› (Wk (Wq (Wb (Wq (qW 74 76 rfl rfl rfl (qM rfl rfl (qA rfl rfl (Nl (Wd 80 95 (by decide) rfl mixed rfl (qF rfl rfl ty53 rfl rfl (qL rfl rfl rfl rfl ty51 rfl (qM rfl rfl (qM rfl rfl (Od rfl rfl (LO.mul_in rfl rfl rfl (by (first|exact IntWalk.i64_in _ (by omega)|assumption))) (qZ rfl rfl rfl (by (first|exact IntWalk.i64_in _ (by omega)|assumption)) (Od rfl rfl (LO.buildSlice rfl ty97 ty9 (by decide) (by decide) (.cons rfl rfl rfl rfl (Sl rfl) (.cons rfl rfl rfl rfl (Sl rfl) (.cons rfl rfl rfl rfl (Sl rfl) (.cons rfl rfl rfl rfl (Sl rfl) (.cons rfl rfl rfl rfl (Sl rfl) .nil)))))) (qM rfl rfl (Od rfl rfl (Ia rfl rfl rfl rfl ty97 ty9 (by first|omega|decide|assumption|(simp;done)|(simp;omega))) (qL rfl rfl rfl hname ty9 rfl (Od rfl rfl (LO.call2 (fr:=[]) (q0:=0) (q1:=3) rfl rfl hm fok38 (.own 0 rfl rfl (.cons rfl (.pure rfl) (.cons rfl (.pure rfl) (.own 1 rfl rfl .nil)))) (by decide) (by decide) (by decide) rfl rfl rfl rfl rfl rfl (Cn _ _) (Cn _ _) rfl) (Od rfl rfl (LO.buildSlice rfl ty51 ty95 (by decide) (by decide) (.cons rfl rfl rfl rfl (Sl rfl) .nil)) (Od rfl rfl (Lap rfl rfl (Sso rfl rfl (Tl rfl)) rfl mems_all' ty51 ty51 ty95 (by decide) (by first|omega|decide|assumption|(simp;done)|(simp;omega)) (by first|omega|decide|assumption|(simp;done)|(simp;omega)) (by first|decide|omega)) (qF rfl rfl ty53 rfl rfl (qS rfl rfl rfl rfl rfl ty51 rfl rfl (Sl rfl) (Nl ⟨by kernel_rfl,?_⟩))))))))))))))))))))))))))))))
      rw [show memsC mm++[.base (.int .i64 m.asn),.base (.string m.name),.base (.string m.set),.base (.int .i64 m.max4),.base (.int .i64 m.max6),.isl (prtsC m.ports) m.ports.length]=memsC (mm++[m]) from by simp [memsC,memC],show mm.length + 1=(mm++[m]).length from by simp]
      refine qW 99 101 rfl rfl rfl (qZ rfl rfl rfl (by (first|exact IntWalk.i64_in _ (by omega)|assumption)) (qM rfl rfl (Nl ?_)))
      rw [← cntP_snoc,show ss++mm++[m]=ss++(mm++[m]) from List.append_assoc ..]
      refine WL.rename [(0,0),(1,1),(2,2),(3,3),(4,92)] 5 (by decide) ?_ ?_ (ihB ((i2 + 1),(mm++[m]),a4) (show 2 + e - (i2 + 1) < 2 + e - i2 from by omega) (show ((i2 + 1)≤2 + e∧(mm++[m]).length=(i2 + 1)∧cntP (ss++(mm++[m]))≤4 + 2 * (i2 + 1))∧∀ (jj:Nat) (h:jj < (mm++[m]).length),MGood l (1 + 7 * jj) (mbrN jj) (cntP (ss++(mm++[m]).take jj)) (mm++[m])[jj] from ⟨⟨by omega,by rw [List.length_append,List.length_singleton];omega,by rw [← List.append_assoc,cntP_snoc];have:=hmg.np;omega⟩,hgs⟩))
      · (repeat' (first|exact all_mt|refine all_up ?_ ?_))<;>first|exact .inl ⟨rfl,rfl⟩|exact .inr ⟨rfl,fun _ h=>by cases h⟩|exact .inl ⟨rfl,by first|rfl|assumption|exact (memsC_pure _)⟩
      · (repeat' (first|exact all_mt|refine all_up ?_ ?_))<;>first|exact ⟨rfl,_,rfl,.inr ⟨rfl,rfl⟩⟩|exact ⟨rfl,_,rfl,.inl rfl⟩|exact ⟨rfl,_,rfl,.inr ⟨rfl,by first|rfl|assumption|exact (memsC_pure _)⟩⟩
    · have g2:decide ((i2:Int) < 2 + (e:Int))=false:=decide_eq_false (by omega)
      refine Wq (qW 69 70 rfl rfl rfl (qK rfl rfl rfl (Nl (Wq (Wf rfl ‹_› (Wx ?_))))))
      clear ihB
      refine Wv (q:=2) (j:=9) (r:=4) rfl rfl (by decide) rfl (mems_all rfl) (memsC_pure _) (Sl rfl) (Wq (qW 105 107 rfl rfl rfl (qG rfl rfl rfl ty53 rfl (Tl rfl) (qS rfl rfl rfl rfl rfl ty53 rfl rfl (Sl rfl) (Nl ?_)))))
      refine W.ret ⟨.inl rfl,_,up mt 0 (some (deckC l b)),(RVs.cons (RV.cellA rfl rfl ty53 rfl (Tk.lit rfl)) RVs.nil),(by (repeat' (first|exact all_mt|refine all_up ?_ ?_))<;>rfl),?_⟩
      exact ⟨⟨lan4,lan6,ss,mm⟩,b,⟨rfl,rfl,hss,by dsimp only;omega,hgd,hgd2⟩,rfl,rfl⟩
end Go.Proofs.YtcidmiacfjdepaaGreatDoor
