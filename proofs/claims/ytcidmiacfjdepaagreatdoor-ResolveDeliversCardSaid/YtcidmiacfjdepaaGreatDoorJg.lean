/-
  The document's check lets a right database pass.
-/
import Derived.Test.YtcidmiacfjdepaaGreatDoorJf
import Derived.Test.YtcidmiacfjdepaaGreatDoorMab
namespace Go.Proofs.YtcidmiacfjdepaaGreatDoor
open Go.RowKit
theorem u64_four (n:Fin 15):validA (fourA (n.val:Int)).v6 (fourA (n.val:Int)).hi (fourA (n.val:Int)).lo=true∧U64 (fourA (n.val:Int)).hi∧U64 (fourA (n.val:Int)).lo:=by
  have:=n.2
  unfold validA fourA U64
  simp
  omega
theorem u64_six (n:Fin 15):validA (sixA (n.val:Int)).v6 (sixA (n.val:Int)).hi (sixA (n.val:Int)).lo=true∧U64 (sixA (n.val:Int)).hi∧U64 (sixA (n.val:Int)).lo:=by
  have:=n.2
  unfold validA sixA U64
  simp
  omega
theorem LO.eql_ad_b {o:Oper} {E:Operand→Option AV} {H:Hp} {f:Nat} {ty:TypeId} {x y:Operand} {r:Bool} (a b:Ad) (h:eqA a b=r) (ho:o.op=.binOp .eql 42 x y ty) (hx:E x=some (.agg (adC a))) (hy:E y=some (.agg (adC b))):LO Tryz.prog o E H f [] [] (.base (.bool r)) H:=h ▸ LO.eql_ad a b ho hx hy
set_option maxHeartbeats 2000000 in
theorem outside_any (d:Db) (hd:DbOk d):AFn Tryz.prog 79 0 [.agg (dbC d)] mt (.base (.bool false)) mt:=by
  refine AFn.eq Tryz.func79 rfl rfl (Nat.le_of_ble_eq_true rfl) ?_
  have h4:=hd.ns
  have h32:=hd.nm
  have hmem:=hd.mem
  have e4:=hd.l4
  have e6:=hd.l6
  have hall:=all_any d (by omega) (by omega)
  obtain ⟨A,hA⟩:∃ A,A=d.servers++d.members:=⟨_,rfl⟩
  rw [← hA] at hall hmem
  have hAl:A.length≤2000:=by rw [hA,List.length_append];omega
  clear hd hA
  obtain ⟨l4,l6,sv,mb⟩:=d
  dsimp only at e4 e6
  subst e4 e6
  have hlast:=last_any lan4 24 rfl (by decide) (by unfold U64;decide) (by unfold U64;decide) (by decide)
  refine Wq (qW 0 2 rfl rfl rfl (qC rfl rfl rfl (qA rfl rfl (Nl (Wq (Wq (qW 6 10 rfl rfl rfl (qG rfl rfl rfl ty53 rfl (Tl rfl) (Od rfl rfl (C0 (fr:=[]) rfl rfl (hall) fok81 (.cons rfl (.pure rfl) .nil) rfl) (qH rfl rfl rfl ty51 (qM rfl rfl (Nl (Wb (W.rename [(0,0)] 1 (T':=up (up (up (up mt 1 (some (.own 0 0))) 8 (some (.isl (memsC A) A.length))) 9 (some (.base (.int .i64 (A.length:Int))))) 10 (some (.base (.int .i64 (0:Int))))) (H':=up mt 0 (some (dbC ⟨lan4,lan6,sv,mb⟩))) (by decide) ?_ ?_ ?_))))))))))))))
  · (repeat' (first|exact all_mt|refine all_up ?_ ?_))<;>first|exact .inl ⟨rfl,rfl⟩|exact .inr ⟨rfl,fun _ h=>by cases h⟩|exact .inl ⟨rfl,by first|rfl|assumption ⟩
  · (repeat' (first|exact all_mt|refine all_up ?_ ?_))<;>first|exact ⟨rfl,_,rfl,.inr ⟨rfl,rfl⟩⟩|exact ⟨rfl,_,rfl,.inl rfl⟩|exact ⟨rfl,_,rfl,.inr ⟨rfl,by first|rfl|assumption ⟩⟩
  refine W.loop_ind (α:=Nat) (fun x=>A.length - x) 1 (fun x=>up (up (up (up mt 1 (some (.own 0 0))) 8 (some (.isl (memsC A) A.length))) 9 (some (.base (.int .i64 (A.length:Int))))) 10 (some (.base (.int .i64 (x:Int))))) (fun x=>up mt 0 (some (dbC ⟨lan4,lan6,sv,mb⟩))) (fun x=>x≤A.length) 0 (show 0≤A.length from Nat.zero_le _) ?_
  rintro i hIA ihA
  try (dsimp only at hIA)
  try dsimp only
  by_cases hc:i < A.length
  · have g1:decide ((i:Int) < (A.length:Int))=true:=decide_eq_true (by omega)
    have hm:=hmem _ (List.getElem_mem hc)
    refine Wq (qW 14 15 rfl rfl rfl (qK rfl rfl rfl (Nl (Wq (Wt rfl ‹_› (Wk (Wq (Wb (Wq (qW 19 23 rfl rfl rfl (qJ rfl rfl rfl rfl rfl ty51 ty95 (by first|omega|decide|assumption|(simp;done)|(simp;omega)) (Od rfl rfl (Lg rfl rfl ty95 rfl (mems_tk hc)) (qB rfl ty95 (qS rfl rfl rfl rfl rfl ty95 rfl rfl (Sl rfl) (Nl ?_)))))))))))))))
    generalize A[i]=m at *
    have hnp:=hm.np
    have hps:=hm.ports
    refine Wq (qW 27 31 rfl rfl rfl (qF rfl rfl ty95 rfl rfl (qL rfl rfl rfl rfl ty93 rfl (qH rfl rfl rfl ty93 (qM rfl rfl (Nl ?_))))))
    generalize m.ports=ps at *
    refine Wb (W.rename [(0,0)] 1 (T':=up (up (up (up (up (up (up mt 1 (some (.own 0 0))) 8 (some (.isl (memsC A) A.length))) 9 (some (.base (.int .i64 (A.length:Int))))) 10 (some (.base (.int .i64 (i:Int))))) 15 (some (.isl (prtsC ps) ps.length))) 16 (some (.base (.int .i64 (ps.length:Int))))) 17 (some (.base (.int .i64 (0:Int))))) (H':=up mt 0 (some (dbC ⟨lan4,lan6,sv,mb⟩))) (by decide) ?_ ?_ ?_)
    · (repeat' (first|exact all_mt|refine all_up ?_ ?_))<;>first|exact .inl ⟨rfl,rfl⟩|exact .inr ⟨rfl,fun _ h=>by cases h⟩|exact .inl ⟨rfl,by first|rfl|assumption ⟩
    · (repeat' (first|exact all_mt|refine all_up ?_ ?_))<;>first|exact ⟨rfl,_,rfl,.inr ⟨rfl,rfl⟩⟩|exact ⟨rfl,_,rfl,.inl rfl⟩|exact ⟨rfl,_,rfl,.inr ⟨rfl,by first|rfl|assumption ⟩⟩
    refine W.loop_ind (α:=Nat) (fun x=>ps.length - x) 1 (fun x=>up (up (up (up (up (up (up mt 1 (some (.own 0 0))) 8 (some (.isl (memsC A) A.length))) 9 (some (.base (.int .i64 (A.length:Int))))) 10 (some (.base (.int .i64 (i:Int))))) 15 (some (.isl (prtsC ps) ps.length))) 16 (some (.base (.int .i64 (ps.length:Int))))) 17 (some (.base (.int .i64 (x:Int))))) (fun x=>up mt 0 (some (dbC ⟨lan4,lan6,sv,mb⟩))) (fun x=>x≤ps.length) 0 (show 0≤ps.length from Nat.zero_le _) ?_
    rintro j hIB ihB
    try (dsimp only at hIB)
    try dsimp only
    by_cases hc2:j < ps.length
    · have g2:decide ((j:Int) < (ps.length:Int))=true:=decide_eq_true (by omega)
      have hp:=hps _ (List.getElem_mem hc2)
      refine Wq (qW 35 36 rfl rfl rfl (qK rfl rfl rfl (Nl (Wq (Wt rfl ‹_› (Wk (Wq (Wb (Wq (qW 40 44 rfl rfl rfl (qJ rfl rfl rfl rfl rfl ty93 ty102 (by first|omega|decide|assumption|(simp;done)|(simp;omega)) (Od rfl rfl (Lg rfl rfl ty102 rfl (prts_tk hc2)) (qB rfl ty102 (qS rfl rfl rfl rfl rfl ty102 rfl rfl (Sl rfl) (Nl ?_)))))))))))))))
      generalize ps[j]=p at *
      have z4:=zero_any p.v4
      have z6:=zero_any p.v6
      obtain ⟨id,sw,sp,macs,v4,v6⟩:=p
      have a4:=hp.a4
      have a6:=hp.a6
      clear hp
      dsimp only at a4 a6 z4 z6
      refine Wq (W.joinK (α:=Unit) 2 (fun x=>[(1,.own 0 0),(6,.own 1 0)]) (fun x=>up (up mt 0 (some (dbC ⟨lan4,lan6,sv,mb⟩))) 1 (some (prtC ⟨id,sw,sp,macs,v4,v6⟩))) (fun x=>True) (.cons (t:=8) rfl (by first|exact .inl rfl|exact .inr ⟨rfl,fun _ h=>by cases h⟩|(exact .inl (by assumption)) ) (.cons (t:=9) rfl (by first|exact .inl rfl|exact .inr ⟨rfl,fun _ h=>by cases h⟩|(exact .inl (by assumption)) ) (.cons (t:=10) rfl (by first|exact .inl rfl|exact .inr ⟨rfl,fun _ h=>by cases h⟩|(exact .inl (by assumption)) ) (.cons (t:=15) rfl (by first|exact .inl rfl|exact .inr ⟨rfl,fun _ h=>by cases h⟩|(exact .inl (by assumption)) ) (.cons (t:=16) rfl (by first|exact .inl rfl|exact .inr ⟨rfl,fun _ h=>by cases h⟩|(exact .inl (by assumption)) ) (.cons (t:=17) rfl (by first|exact .inl rfl|exact .inr ⟨rfl,fun _ h=>by cases h⟩|(exact .inl (by assumption)) ) .nil)))))) ?_ ?_)
      rotate_left
      rintro q hIJ
      try (dsimp only at hIJ)
      try dsimp only [joinT,baseT,List.cons_append,List.nil_append]
      rotate_right
      ·
        rcases a4 with e|⟨n,e⟩
        ·
          subst e
          rw [show zeroA ⟨false,0,0⟩=true from rfl] at z4
          refine Wq (Wd 48 76 (by decide) rfl mixed rfl (qF rfl rfl ty102 rfl rfl (qG rfl rfl rfl ty42 rfl (Tl rfl) (Od rfl rfl (C0 (fr:=[]) rfl rfl (z4) fok98 (.cons rfl (.pure rfl) .nil) rfl) (qO rfl rfl (qM rfl rfl (Sd rfl rfl rfl rfl rfl (Sd rfl rfl rfl rfl rfl (Sd rfl rfl rfl rfl rfl (Sd rfl rfl rfl rfl rfl (Sd rfl rfl rfl rfl rfl (Sd rfl rfl rfl rfl rfl (Sd rfl rfl rfl rfl rfl (Ud rfl rfl rfl rfl (Ud rfl rfl rfl rfl (Ud rfl rfl rfl rfl (Ud rfl rfl rfl rfl (Ud rfl rfl rfl rfl (Ud rfl rfl rfl rfl (Sd rfl rfl rfl rfl rfl (Sd rfl rfl rfl rfl rfl (Ud rfl rfl rfl rfl (Ud rfl rfl rfl rfl (Ud rfl rfl rfl rfl (Ud rfl rfl rfl rfl (Ud rfl rfl rfl rfl (Ud rfl rfl rfl rfl (Sd rfl rfl rfl rfl rfl (qP rfl rfl rfl rfl (Nl ⟨by kernel_rfl,(Wf rfl rfl (Wk ?_))⟩))))))))))))))))))))))))))))))
          intro yJ KJ hJ
          refine W.renameJ [(0,0),(1,42)] 2 (by decide) ?_ ?_ (hJ (()) (show True from trivial))
          · (repeat' (first|exact LookR.nil|refine LookR.cons ?_ ?_))<;>first|exact .inl ⟨rfl,rfl⟩|exact .inr ⟨rfl,fun _ h=>by cases h⟩|exact .inl ⟨rfl,by first|rfl|assumption ⟩
          · (repeat' (first|exact all_mt|refine all_up ?_ ?_))<;>first|exact ⟨rfl,_,rfl,.inr ⟨rfl,rfl⟩⟩|exact ⟨rfl,_,rfl,.inl rfl⟩|exact ⟨rfl,_,rfl,.inr ⟨rfl,by first|rfl|assumption ⟩⟩
        ·
          subst e
          obtain ⟨u1,u2,u3⟩:=u64_four n
          have hct:=containsX_any lan4 (fourA (n.val:Int)) 24 rfl u1 u2 u3 (by show (24:Int)≤32;decide)
          rw [(four_in n).1] at hct
          have hz:zeroA (fourA (n.val:Int))=false:=by have:=n.2;unfold zeroA eqA fourA;simp;omega
          rw [hz] at z4
          clear hz u1
          refine Wq (Wd 48 76 (by decide) rfl mixed rfl (qF rfl rfl ty102 rfl rfl (qG rfl rfl rfl ty42 rfl (Tl rfl) (Od rfl rfl (C0 (fr:=[]) rfl rfl (z4) fok98 (.cons rfl (.pure rfl) .nil) rfl) (qO rfl rfl (qM rfl rfl (Gd rfl rfl rfl rfl rfl (Fa rfl rfl ty53 rfl (by decide)) (Gd rfl rfl rfl rfl rfl (La rfl rfl rfl ty50 rfl (Tl rfl)) (Gd rfl rfl rfl rfl rfl (Fa rfl rfl ty102 rfl (by decide)) (Gd rfl rfl rfl rfl rfl (La rfl rfl rfl ty42 rfl (Tl rfl)) (Gd rfl rfl rfl rfl rfl (C0 (fr:=[]) rfl rfl (hct) fok99 (.cons rfl (.pure rfl) (.cons rfl (.pure rfl) .nil)) rfl) (Gd rfl rfl rfl rfl rfl (Nt rfl rfl) (Gd rfl rfl rfl rfl rfl (Mv rfl rfl) (Gd rfl rfl rfl rfl rfl (Fa rfl rfl ty102 rfl (by decide)) (Gd rfl rfl rfl rfl rfl (La rfl rfl rfl ty42 rfl (Tl rfl)) (Gd rfl rfl rfl rfl rfl (Fa rfl rfl ty53 rfl (by decide)) (Gd rfl rfl rfl rfl rfl (Fa rfl rfl ty50 rfl (by decide)) (Gd rfl rfl rfl rfl rfl (La rfl rfl rfl ty42 rfl (Tl rfl)) (Gd rfl rfl rfl rfl rfl (LO.eql_ad_b (fourA (n.val:Int)) lan4.ad (four_in n).2.1 rfl rfl rfl) (Gd rfl rfl rfl rfl rfl (Pf0 rfl rfl rfl rfl) (Gd rfl rfl rfl rfl rfl (Mv rfl rfl) (Gd rfl rfl rfl rfl rfl (Fa rfl rfl ty102 rfl (by decide)) (Gd rfl rfl rfl rfl rfl (La rfl rfl rfl ty42 rfl (Tl rfl)) (Gd rfl rfl rfl rfl rfl (Fa rfl rfl ty53 rfl (by decide)) (Gd rfl rfl rfl rfl rfl (La rfl rfl rfl ty50 rfl (Tl rfl)) (Gd rfl rfl rfl rfl rfl (C0 (fr:=[]) rfl rfl (hlast) fok100 (.cons rfl (.pure rfl) .nil) rfl) (Gd rfl rfl rfl rfl rfl (LO.eql_ad_b (fourA (n.val:Int)) (mkAd .or lan4.ad 24) (four_in n).2.2 rfl rfl rfl) (Gd rfl rfl rfl rfl rfl (Pf0 rfl rfl rfl rfl) (qT rfl rfl rfl rfl (Nl ⟨by kernel_rfl,(Wf rfl rfl (Wk ?_))⟩))))))))))))))))))))))))))))))
          intro yJ KJ hJ
          refine W.renameJ [(0,0),(1,42)] 2 (by decide) ?_ ?_ (hJ (()) (show True from trivial))
          · (repeat' (first|exact LookR.nil|refine LookR.cons ?_ ?_))<;>first|exact .inl ⟨rfl,rfl⟩|exact .inr ⟨rfl,fun _ h=>by cases h⟩|exact .inl ⟨rfl,by first|rfl|assumption ⟩
          · (repeat' (first|exact all_mt|refine all_up ?_ ?_))<;>first|exact ⟨rfl,_,rfl,.inr ⟨rfl,rfl⟩⟩|exact ⟨rfl,_,rfl,.inl rfl⟩|exact ⟨rfl,_,rfl,.inr ⟨rfl,by first|rfl|assumption ⟩⟩
      rcases a6 with e|⟨n,e⟩
      ·
        subst e
        rw [show zeroA ⟨false,0,0⟩=true from rfl] at z6
        refine Wq (qW 85 105 rfl rfl rfl (qF rfl rfl ty102 rfl rfl (qG rfl rfl rfl ty42 rfl (Tl rfl) (Od rfl rfl (C0 (fr:=[]) rfl rfl (z6) fok98 (.cons rfl (.pure rfl) .nil) rfl) (qO rfl rfl (qM rfl rfl (Sd rfl rfl rfl rfl rfl (Sd rfl rfl rfl rfl rfl (Sd rfl rfl rfl rfl rfl (Sd rfl rfl rfl rfl rfl (Sd rfl rfl rfl rfl rfl (Sd rfl rfl rfl rfl rfl (Sd rfl rfl rfl rfl rfl (Ud rfl rfl rfl rfl (Ud rfl rfl rfl rfl (Ud rfl rfl rfl rfl (Ud rfl rfl rfl rfl (Ud rfl rfl rfl rfl (Ud rfl rfl rfl rfl (Sd rfl rfl rfl rfl rfl (qP rfl rfl rfl rfl (Nl (Wf rfl rfl (Wk (qW 114 116 rfl rfl rfl (qZ rfl rfl rfl (by (first|exact IntWalk.i64_in _ (by omega)|assumption)) (qM rfl rfl (Nl (WL.rename [(0,0)] 1 (by decide) ?_ ?_ (ihB (j + 1) (show ps.length - (j + 1) < ps.length - j from by omega) (show (j + 1)≤ps.length from by omega)))))))))))))))))))))))))))))))
        · (repeat' (first|exact all_mt|refine all_up ?_ ?_))<;>first|exact .inl ⟨rfl,rfl⟩|exact .inr ⟨rfl,fun _ h=>by cases h⟩|exact .inl ⟨rfl,by first|rfl|assumption ⟩
        · (repeat' (first|exact all_mt|refine all_up ?_ ?_))<;>first|exact ⟨rfl,_,rfl,.inr ⟨rfl,rfl⟩⟩|exact ⟨rfl,_,rfl,.inl rfl⟩|exact ⟨rfl,_,rfl,.inr ⟨rfl,by first|rfl|assumption ⟩⟩
      ·
        subst e
        obtain ⟨u1,u2,u3⟩:=u64_six n
        have hct:=containsX_any lan6 (sixA (n.val:Int)) 64 rfl u1 u2 u3 (by show (64:Int)≤128;decide)
        rw [(six_in n).1] at hct
        have hz:zeroA (sixA (n.val:Int))=false:=rfl
        rw [hz] at z6
        clear hz u1
        refine Wq (qW 85 105 rfl rfl rfl (qF rfl rfl ty102 rfl rfl (qG rfl rfl rfl ty42 rfl (Tl rfl) (Od rfl rfl (C0 (fr:=[]) rfl rfl (z6) fok98 (.cons rfl (.pure rfl) .nil) rfl) (qO rfl rfl (qM rfl rfl (Gd rfl rfl rfl rfl rfl (Fa rfl rfl ty53 rfl (by decide)) (Gd rfl rfl rfl rfl rfl (La rfl rfl rfl ty50 rfl (Tl rfl)) (Gd rfl rfl rfl rfl rfl (Fa rfl rfl ty102 rfl (by decide)) (Gd rfl rfl rfl rfl rfl (La rfl rfl rfl ty42 rfl (Tl rfl)) (Gd rfl rfl rfl rfl rfl (C0 (fr:=[]) rfl rfl (hct) fok99 (.cons rfl (.pure rfl) (.cons rfl (.pure rfl) .nil)) rfl) (Gd rfl rfl rfl rfl rfl (Nt rfl rfl) (Gd rfl rfl rfl rfl rfl (Mv rfl rfl) (Gd rfl rfl rfl rfl rfl (Fa rfl rfl ty102 rfl (by decide)) (Gd rfl rfl rfl rfl rfl (La rfl rfl rfl ty42 rfl (Tl rfl)) (Gd rfl rfl rfl rfl rfl (Fa rfl rfl ty53 rfl (by decide)) (Gd rfl rfl rfl rfl rfl (Fa rfl rfl ty50 rfl (by decide)) (Gd rfl rfl rfl rfl rfl (La rfl rfl rfl ty42 rfl (Tl rfl)) (Gd rfl rfl rfl rfl rfl (LO.eql_ad_b (sixA (n.val:Int)) lan6.ad (six_in n).2 rfl rfl rfl) (Gd rfl rfl rfl rfl rfl (Pf0 rfl rfl rfl rfl) (qT rfl rfl rfl rfl (Nl (Wf rfl rfl (Wk (qW 114 116 rfl rfl rfl (qZ rfl rfl rfl (by (first|exact IntWalk.i64_in _ (by omega)|assumption)) (qM rfl rfl (Nl (WL.rename [(0,0)] 1 (by decide) ?_ ?_ (ihB (j + 1) (show ps.length - (j + 1) < ps.length - j from by omega) (show (j + 1)≤ps.length from by omega)))))))))))))))))))))))))))))))
        · (repeat' (first|exact all_mt|refine all_up ?_ ?_))<;>first|exact .inl ⟨rfl,rfl⟩|exact .inr ⟨rfl,fun _ h=>by cases h⟩|exact .inl ⟨rfl,by first|rfl|assumption ⟩
        · (repeat' (first|exact all_mt|refine all_up ?_ ?_))<;>first|exact ⟨rfl,_,rfl,.inr ⟨rfl,rfl⟩⟩|exact ⟨rfl,_,rfl,.inl rfl⟩|exact ⟨rfl,_,rfl,.inr ⟨rfl,by first|rfl|assumption ⟩⟩
    · have g2:decide ((j:Int) < (ps.length:Int))=false:=decide_eq_false (by omega)
      refine Wq (qW 35 36 rfl rfl rfl (qK rfl rfl rfl (Nl (Wq (Wf rfl ‹_› (Wx ?_))))))
      clear ihB
      refine qW 120 122 rfl rfl rfl (qZ rfl rfl rfl (by (first|exact IntWalk.i64_in _ (by omega)|assumption)) (qM rfl rfl (Nl (WL.rename [(0,0)] 1 (by decide) ?_ ?_ (ihA (i + 1) (show A.length - (i + 1) < A.length - i from by omega) (show (i + 1)≤A.length from by omega))))))
      · (repeat' (first|exact all_mt|refine all_up ?_ ?_))<;>first|exact .inl ⟨rfl,rfl⟩|exact .inr ⟨rfl,fun _ h=>by cases h⟩|exact .inl ⟨rfl,by first|rfl|assumption ⟩
      · (repeat' (first|exact all_mt|refine all_up ?_ ?_))<;>first|exact ⟨rfl,_,rfl,.inr ⟨rfl,rfl⟩⟩|exact ⟨rfl,_,rfl,.inl rfl⟩|exact ⟨rfl,_,rfl,.inr ⟨rfl,by first|rfl|assumption ⟩⟩
  · have g1:decide ((i:Int) < (A.length:Int))=false:=decide_eq_false (by omega)
    refine Wq (qW 14 15 rfl rfl rfl (qK rfl rfl rfl (Nl (Wq (Wf rfl ‹_› (Wx (Wq (qW 126 127 rfl rfl rfl (qA rfl rfl (Nl (Wz ⟨.inl rfl,_,mt,Rc (Rt rfl) (Rn),all_mt,?_⟩)))))))))))
    exact ⟨rfl,rfl⟩
theorem dbck_any (d:Db) (hd:DbOk d) (ho:Once d):AFn Tryz.prog 39 0 [.agg (dbC d)] mt (.base (.int .i64 0)) mt:=by
  refine AFn.eq Tryz.func39 rfl rfl (Nat.le_of_ble_eq_true rfl) ?_
  have c1:=many_any d hd
  have c2:=wrong_any d hd
  have c3:=outside_any d hd
  have c4:=twice_any d ho
  refine Wq (qW 0 2 rfl rfl rfl (qC rfl rfl rfl (qA rfl rfl (Nl (Wq (Wb (Wq (qW 6 9 rfl rfl rfl (qG rfl rfl rfl ty53 rfl (Tl rfl) (Od rfl rfl (C0 (fr:=[]) rfl rfl (c1) fok77 (.cons rfl (.pure rfl) .nil) rfl) (qA rfl rfl (Nl (Wf rfl rfl (Wq (qW 18 21 rfl rfl rfl (qG rfl rfl rfl ty53 rfl (Tl rfl) (Od rfl rfl (C0 (fr:=[]) rfl rfl (c2) fok78 (.cons rfl (.pure rfl) .nil) rfl) (qA rfl rfl (Nl (Wf rfl rfl (Wq (qW 30 33 rfl rfl rfl (qG rfl rfl rfl ty53 rfl (Tl rfl) (Od rfl rfl (C0 (fr:=[]) rfl rfl (c3) fok79 (.cons rfl (.pure rfl) .nil) rfl) (qA rfl rfl (Nl (Wf rfl rfl (Wq (qW 42 45 rfl rfl rfl (qG rfl rfl rfl ty53 rfl (Tl rfl) (Od rfl rfl (C0 (fr:=[]) rfl rfl (c4) fok80 (.cons rfl (.pure rfl) .nil) rfl) (qA rfl rfl (Nl (Wf rfl rfl (Wk (Wq (qW 54 55 rfl rfl rfl (qA rfl rfl (Nl (Wz ⟨.inl rfl,_,mt,Rc (Rt rfl) (Rn),all_mt,?_⟩))))))))))))))))))))))))))))))))))))))))
  exact ⟨rfl,rfl⟩
end Go.Proofs.YtcidmiacfjdepaaGreatDoor
