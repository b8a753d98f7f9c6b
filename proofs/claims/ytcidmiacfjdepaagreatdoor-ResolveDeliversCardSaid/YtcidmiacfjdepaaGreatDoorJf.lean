/-
  Databases that the document's check lets pass.
-/
import Derived.Test.YtcidmiacfjdepaaGreatDoorJe
import Derived.Test.YtcidmiacfjdepaaGreatDoorMab
namespace Go.Proofs.YtcidmiacfjdepaaGreatDoor
open Go.RowKit
def emptyS:ByteArray:=⟨#[]⟩
def asA:ByteArray:=⟨#[65,83,45,65]⟩
def asB:ByteArray:=⟨#[65,83,45,66]⟩
def nameB (s:ByteArray):Bool:=decide (1≤s.size) && decide (s.size≤32) && (List.range s.size).all fun i=>match s[i]? with
  | some b=>decide ((97≤b.toNat∧b.toNat≤122)∨(65≤b.toNat∧b.toNat≤90)∨(48≤b.toNat∧b.toNat≤57)∨b.toNat=45∨b.toNat=58)
  | none=>true
theorem NameOk.of {s:ByteArray} (h:nameB s=true):NameOk s:=by
  unfold nameB at h
  simp only [Bool.and_eq_true,decide_eq_true_eq,List.all_eq_true,List.mem_range] at h
  refine ⟨h.1.1,h.1.2,fun i b hb=>?_⟩
  have hi:i < s.size:=by
    rcases Nat.lt_or_ge i s.size with h1|h1
    · exact h1
    · rw [getElem?_neg s i (by omega)] at hb;cases hb
  have:=h.2 i hi
  rw [hb] at this
  simp only [decide_eq_true_eq] at this
  unfold okC
  omega
theorem asA_ok:NameOk asA:=.of (by decide +kernel)
theorem asB_ok:NameOk asB:=.of (by decide +kernel)
structure MemOk (m:Mem):Prop where
  asn:1≤m.asn∧m.asn≤4294967295
  name:NameOk m.name
  set:m.set=emptyS∨m.set=asA∨m.set=asB
  max4:0≤m.max4∧m.max4≤512
  max6:0≤m.max6∧m.max6≤512
  np:1≤m.ports.length∧m.ports.length≤4
  ports:∀ p,p∈m.ports→PrtOk p
structure DbOk (d:Db):Prop where
  l4:d.lan4=lan4
  l6:d.lan6=lan6
  ns:d.servers.length≤4
  nm:d.members.length≤32
  mem:∀ m,m∈d.servers++d.members→MemOk m
set_option maxHeartbeats 1000000 in
theorem many_any (d:Db) (hd:DbOk d):AFn Tryz.prog 77 0 [.agg (dbC d)] mt (.base (.bool false)) mt:=by
  refine AFn.eq Tryz.func77 rfl rfl (Nat.le_of_ble_eq_true rfl) ?_
  have h4:=hd.ns
  have h32:=hd.nm
  have hmem:=hd.mem
  have hall:=all_any d (by omega) (by omega)
  obtain ⟨A,hA⟩:∃ A,A=d.servers++d.members:=⟨_,rfl⟩
  rw [← hA] at hall hmem
  have hAl:A.length≤2000:=by rw [hA,List.length_append];omega
  have g4:decide ((d.servers.length:Int) > 4)=false:=decide_eq_false (by omega)
  have g32:decide ((d.members.length:Int) > 32)=false:=decide_eq_false (by omega)
  refine Wq (qW 0 2 rfl rfl rfl (qC rfl rfl rfl (qA rfl rfl (Nl (Wq (Wq (qW 6 16 rfl rfl rfl (qF rfl rfl ty53 rfl rfl (qL rfl rfl rfl rfl ty51 rfl (qH rfl rfl rfl ty51 (Od rfl rfl (Gt0 rfl rfl rfl) (qM rfl rfl (Gd rfl rfl rfl ‹_› rfl (Fa rfl rfl ty53 rfl (by decide)) (Gd rfl rfl rfl ‹_› rfl (Ld rfl rfl rfl rfl ty51 rfl) (Gd rfl rfl rfl ‹_› rfl (Ln rfl rfl rfl ty51) (Gd rfl rfl rfl ‹_› rfl (Gt0 rfl rfl rfl) (qP rfl rfl ‹_› rfl (Nl (Wf rfl ‹_› (Wk (Wq (Wq (qW 25 29 rfl rfl rfl (qG rfl rfl rfl ty53 rfl (Tl rfl) (Od rfl rfl (C0 (fr:=[]) rfl rfl (hall) fok81 (.cons rfl (.pure rfl) .nil) rfl) (qH rfl rfl rfl ty51 (qM rfl rfl (Nl (Wb (W.rename [] 0 (T':=up (up (up mt 18 (some (.isl (memsC A) A.length))) 19 (some (.base (.int .i64 (A.length:Int))))) 20 (some (.base (.int .i64 (0:Int))))) (H':=mt) (by decide) ?_ ?_ ?_))))))))))))))))))))))))))))))
  · (repeat' (first|exact all_mt|refine all_up ?_ ?_))<;>first|exact .inl ⟨rfl,rfl⟩|exact .inr ⟨rfl,fun _ h=>by cases h⟩|exact .inl ⟨rfl,by first|rfl|assumption ⟩
  · (repeat' (first|exact all_mt|refine all_up ?_ ?_))<;>first|exact ⟨rfl,_,rfl,.inr ⟨rfl,rfl⟩⟩|exact ⟨rfl,_,rfl,.inl rfl⟩|exact ⟨rfl,_,rfl,.inr ⟨rfl,by first|rfl|assumption ⟩⟩
  refine W.loop_ind (α:=Nat) (fun x=>A.length - x) 0 (fun x=>up (up (up mt 18 (some (.isl (memsC A) A.length))) 19 (some (.base (.int .i64 (A.length:Int))))) 20 (some (.base (.int .i64 (x:Int))))) (fun x=>mt) (fun x=>x≤A.length) 0 (show 0≤A.length from Nat.zero_le _) ?_
  rintro i hIA ihA
  try (dsimp only at hIA)
  try dsimp only
  by_cases hc:i < A.length
  · have g1:decide ((i:Int) < (A.length:Int))=true:=decide_eq_true (by omega)
    have hm:=hmem _ (List.getElem_mem hc)
    refine Wq (qW 33 34 rfl rfl rfl (qK rfl rfl rfl (Nl (Wq (Wt rfl ‹_› (Wk (Wq (Wb (Wq (qW 38 42 rfl rfl rfl (qJ rfl rfl rfl rfl rfl ty51 ty95 (by first|omega|decide|assumption|(simp;done)|(simp;omega)) (Od rfl rfl (Lg rfl rfl ty95 rfl (mems_tk hc)) (qB rfl ty95 (qS rfl rfl rfl rfl rfl ty95 rfl rfl (Sl rfl) (Nl ?_)))))))))))))))
    generalize A[i]=m at *
    have hnp:=hm.np
    have w1:=within_yes (n:=(m.ports.length:Int)) (l:=1) (h:=4) (by omega) (by omega)
    have hps:=hm.ports
    refine Wq (Wq (qW 46 51 rfl rfl rfl (qF rfl rfl ty95 rfl rfl (qL rfl rfl rfl rfl ty93 rfl (qH rfl rfl rfl ty93 (Od rfl rfl (C0 (fr:=[]) rfl rfl (w1) fok94 (.cons rfl (.pure rfl) (.cons rfl (.pure rfl) (.cons rfl (.pure rfl) .nil))) rfl) (qO rfl rfl (Nl (Wf rfl rfl (Wk (Wq (qW 60 64 rfl rfl rfl (qF rfl rfl ty95 rfl rfl (qL rfl rfl rfl rfl ty93 rfl (qH rfl rfl rfl ty93 (qM rfl rfl (Nl ?_)))))))))))))))))
    generalize m.ports=ps at *
    refine Wb (W.rename [] 0 (T':=up (up (up (up (up (up mt 18 (some (.isl (memsC A) A.length))) 19 (some (.base (.int .i64 (A.length:Int))))) 20 (some (.base (.int .i64 (i:Int))))) 30 (some (.isl (prtsC ps) ps.length))) 31 (some (.base (.int .i64 (ps.length:Int))))) 32 (some (.base (.int .i64 (0:Int))))) (H':=mt) (by decide) ?_ ?_ ?_)
    · (repeat' (first|exact all_mt|refine all_up ?_ ?_))<;>first|exact .inl ⟨rfl,rfl⟩|exact .inr ⟨rfl,fun _ h=>by cases h⟩|exact .inl ⟨rfl,by first|rfl|assumption ⟩
    · (repeat' (first|exact all_mt|refine all_up ?_ ?_))<;>first|exact ⟨rfl,_,rfl,.inr ⟨rfl,rfl⟩⟩|exact ⟨rfl,_,rfl,.inl rfl⟩|exact ⟨rfl,_,rfl,.inr ⟨rfl,by first|rfl|assumption ⟩⟩
    refine W.loop_ind (α:=Nat) (fun x=>ps.length - x) 0 (fun x=>up (up (up (up (up (up mt 18 (some (.isl (memsC A) A.length))) 19 (some (.base (.int .i64 (A.length:Int))))) 20 (some (.base (.int .i64 (i:Int))))) 30 (some (.isl (prtsC ps) ps.length))) 31 (some (.base (.int .i64 (ps.length:Int))))) 32 (some (.base (.int .i64 (x:Int))))) (fun x=>mt) (fun x=>x≤ps.length) 0 (show 0≤ps.length from Nat.zero_le _) ?_
    rintro j hIB ihB
    try (dsimp only at hIB)
    try dsimp only
    by_cases hc2:j < ps.length
    · have g2:decide ((j:Int) < (ps.length:Int))=true:=decide_eq_true (by omega)
      have hp:=(hps _ (List.getElem_mem hc2)).nm
      refine Wq (qW 68 69 rfl rfl rfl (qK rfl rfl rfl (Nl (Wq (Wt rfl ‹_› (Wk (Wq (Wb (Wq (qW 73 77 rfl rfl rfl (qJ rfl rfl rfl rfl rfl ty93 ty102 (by first|omega|decide|assumption|(simp;done)|(simp;omega)) (Od rfl rfl (Lg rfl rfl ty102 rfl (prts_tk hc2)) (qB rfl ty102 (qS rfl rfl rfl rfl rfl ty102 rfl rfl (Sl rfl) (Nl ?_)))))))))))))))
      generalize ps[j]=p at *
      have w2:=within_yes (n:=(p.macs.length:Int)) (l:=1) (h:=2) (by omega) (by omega)
      refine Wq (qW 81 86 rfl rfl rfl (qF rfl rfl ty102 rfl rfl (qL rfl rfl rfl rfl ty32 rfl (qH rfl rfl rfl ty32 (Od rfl rfl (C0 (fr:=[]) rfl rfl (w2) fok94 (.cons rfl (.pure rfl) (.cons rfl (.pure rfl) (.cons rfl (.pure rfl) .nil))) rfl) (qO rfl rfl (Nl (Wf rfl rfl (Wk (qW 95 97 rfl rfl rfl (qZ rfl rfl rfl (by (first|exact IntWalk.i64_in _ (by omega)|assumption)) (qM rfl rfl (Nl (WL.rename [] 0 (by decide) ?_ ?_ (ihB (j + 1) (show ps.length - (j + 1) < ps.length - j from by omega) (show (j + 1)≤ps.length from by omega))))))))))))))))
      · (repeat' (first|exact all_mt|refine all_up ?_ ?_))<;>first|exact .inl ⟨rfl,rfl⟩|exact .inr ⟨rfl,fun _ h=>by cases h⟩|exact .inl ⟨rfl,by first|rfl|assumption ⟩
      · (repeat' (first|exact all_mt|refine all_up ?_ ?_))<;>first|exact ⟨rfl,_,rfl,.inr ⟨rfl,rfl⟩⟩|exact ⟨rfl,_,rfl,.inl rfl⟩|exact ⟨rfl,_,rfl,.inr ⟨rfl,by first|rfl|assumption ⟩⟩
    · have g2:decide ((j:Int) < (ps.length:Int))=false:=decide_eq_false (by omega)
      refine Wq (qW 68 69 rfl rfl rfl (qK rfl rfl rfl (Nl (Wq (Wf rfl ‹_› (Wx ?_))))))
      clear ihB
      refine qW 101 103 rfl rfl rfl (qZ rfl rfl rfl (by (first|exact IntWalk.i64_in _ (by omega)|assumption)) (qM rfl rfl (Nl (WL.rename [] 0 (by decide) ?_ ?_ (ihA (i + 1) (show A.length - (i + 1) < A.length - i from by omega) (show (i + 1)≤A.length from by omega))))))
      · (repeat' (first|exact all_mt|refine all_up ?_ ?_))<;>first|exact .inl ⟨rfl,rfl⟩|exact .inr ⟨rfl,fun _ h=>by cases h⟩|exact .inl ⟨rfl,by first|rfl|assumption ⟩
      · (repeat' (first|exact all_mt|refine all_up ?_ ?_))<;>first|exact ⟨rfl,_,rfl,.inr ⟨rfl,rfl⟩⟩|exact ⟨rfl,_,rfl,.inl rfl⟩|exact ⟨rfl,_,rfl,.inr ⟨rfl,by first|rfl|assumption ⟩⟩
  · have g1:decide ((i:Int) < (A.length:Int))=false:=decide_eq_false (by omega)
    refine Wq (qW 33 34 rfl rfl rfl (qK rfl rfl rfl (Nl (Wq (Wf rfl ‹_› (Wx (Wq (qW 107 108 rfl rfl rfl (qA rfl rfl (Nl (Wz ⟨.inl rfl,_,mt,Rc (Rt rfl) (Rn),all_mt,?_⟩)))))))))))
    exact ⟨rfl,rfl⟩
theorem lan4V:AFn Tryz.prog 95 0 [.agg (preC lan4)] mt (.base (.bool true)) mt:=by
  have:=pvalidX_any lan4 24 rfl (by decide) (by unfold U64;decide) (by unfold U64;decide) (by decide)
  rwa [lan_ok.1] at this
theorem lan6V:AFn Tryz.prog 95 0 [.agg (preC lan6)] mt (.base (.bool true)) mt:=by
  have:=pvalidX_any lan6 64 rfl (by decide) (by unfold U64;decide) (by unfold U64;decide) (by decide)
  rwa [lan_ok.2] at this
set_option maxHeartbeats 2000000 in
theorem wrong_any (d:Db) (hd:DbOk d):AFn Tryz.prog 78 0 [.agg (dbC d)] mt (.base (.bool false)) mt:=by
  refine AFn.eq Tryz.func78 rfl rfl (Nat.le_of_ble_eq_true rfl) ?_
  have h4:=hd.ns
  have h32:=hd.nm
  have hmem:=hd.mem
  have e4:=hd.l4
  have e6:=hd.l6
  have hall:=all_any d (by omega) (by omega)
  obtain ⟨A,hA⟩:∃ A,A=d.servers++d.members:=⟨_,rfl⟩
  rw [← hA] at hall hmem
  have hAl:A.length≤2000:=by rw [hA,List.length_append];omega
  clear hd hA
  obtain ⟨l4,l6,sv,mb⟩:=d
  dsimp only at e4 e6
  subst e4 e6
  have v4:=lan4V
  have v6:=lan6V
  have w4:=within_yes (n:=24) (l:=8) (h:=30) (by decide) (by decide)
  have w6:=within_yes (n:=64) (l:=32) (h:=64) (by decide) (by decide)
  refine Wq (qW 0 2 rfl rfl rfl (qC rfl rfl rfl (qA rfl rfl (Nl (Wq (Wq (qW 6 43 rfl rfl rfl (qF rfl rfl ty53 rfl rfl (qG rfl rfl rfl ty50 rfl (Tl rfl) (Od rfl rfl (C0 (fr:=[]) rfl rfl (v4) fok95 (.cons rfl (.pure rfl) .nil) rfl) (qO rfl rfl (qM rfl rfl (Gd rfl rfl rfl rfl rfl (Fa rfl rfl ty53 rfl (by decide)) (Gd rfl rfl rfl rfl rfl (Fa rfl rfl ty50 rfl (by decide)) (Gd rfl rfl rfl rfl rfl (Fa rfl rfl ty42 rfl (by decide)) (Gd rfl rfl rfl rfl rfl (Ld rfl rfl rfl rfl ty4 rfl) (qP rfl rfl rfl rfl (qM rfl rfl (Gd rfl rfl rfl rfl rfl (Fa rfl rfl ty53 rfl (by decide)) (Gd rfl rfl rfl rfl rfl (Fa rfl rfl ty50 rfl (by decide)) (Gd rfl rfl rfl rfl rfl (Ld rfl rfl rfl rfl ty3 rfl) (Gd rfl rfl rfl rfl rfl (C0 (fr:=[]) rfl rfl (w4) fok94 (.cons rfl (.pure rfl) (.cons rfl (.pure rfl) (.cons rfl (.pure rfl) .nil))) rfl) (Gd rfl rfl rfl rfl rfl (Nt rfl rfl) (qP rfl rfl rfl rfl (qM rfl rfl (Gd rfl rfl rfl rfl rfl (Fa rfl rfl ty53 rfl (by decide)) (Gd rfl rfl rfl rfl rfl (La rfl rfl rfl ty50 rfl (Tl rfl)) (Gd rfl rfl rfl rfl rfl (C0 (fr:=[]) rfl rfl (v6) fok95 (.cons rfl (.pure rfl) .nil) rfl) (Gd rfl rfl rfl rfl rfl (Nt rfl rfl) (qP rfl rfl rfl rfl (qM rfl rfl (Gd rfl rfl rfl rfl rfl (Fa rfl rfl ty53 rfl (by decide)) (Gd rfl rfl rfl rfl rfl (Fa rfl rfl ty50 rfl (by decide)) (Gd rfl rfl rfl rfl rfl (Fa rfl rfl ty42 rfl (by decide)) (Gd rfl rfl rfl rfl rfl (Ld rfl rfl rfl rfl ty4 rfl) (Gd rfl rfl rfl rfl rfl (Nt rfl rfl) (qP rfl rfl rfl rfl (qM rfl rfl (Gd rfl rfl rfl rfl rfl (Fa rfl rfl ty53 rfl (by decide)) (Gd rfl rfl rfl rfl rfl (Fa rfl rfl ty50 rfl (by decide)) (Gd rfl rfl rfl rfl rfl (Ld rfl rfl rfl rfl ty3 rfl) (Gd rfl rfl rfl rfl rfl (C0 (fr:=[]) rfl rfl (w6) fok94 (.cons rfl (.pure rfl) (.cons rfl (.pure rfl) (.cons rfl (.pure rfl) .nil))) rfl) (Gd rfl rfl rfl rfl rfl (Nt rfl rfl) (qP rfl rfl rfl rfl (Nl (Wf rfl rfl (Wk (Wq (Wq (qW 52 56 rfl rfl rfl (qG rfl rfl rfl ty53 rfl (Tl rfl) (Od rfl rfl (C0 (fr:=[]) rfl rfl (hall) fok81 (.cons rfl (.pure rfl) .nil) rfl) (qH rfl rfl rfl ty51 (qM rfl rfl (Nl (Wb (W.rename [] 0 (T':=up (up (up mt 45 (some (.isl (memsC A) A.length))) 46 (some (.base (.int .i64 (A.length:Int))))) 47 (some (.base (.int .i64 (0:Int))))) (H':=mt) (by decide) ?_ ?_ ?_)))))))))))))))))))))))))))))))))))))))))))))))))))))))))
  · (repeat' (first|exact all_mt|refine all_up ?_ ?_))<;>first|exact .inl ⟨rfl,rfl⟩|exact .inr ⟨rfl,fun _ h=>by cases h⟩|exact .inl ⟨rfl,by first|rfl|assumption ⟩
  · (repeat' (first|exact all_mt|refine all_up ?_ ?_))<;>first|exact ⟨rfl,_,rfl,.inr ⟨rfl,rfl⟩⟩|exact ⟨rfl,_,rfl,.inl rfl⟩|exact ⟨rfl,_,rfl,.inr ⟨rfl,by first|rfl|assumption ⟩⟩
  refine W.loop_ind (α:=Nat) (fun x=>A.length - x) 0 (fun x=>up (up (up mt 45 (some (.isl (memsC A) A.length))) 46 (some (.base (.int .i64 (A.length:Int))))) 47 (some (.base (.int .i64 (x:Int))))) (fun x=>mt) (fun x=>x≤A.length) 0 (show 0≤A.length from Nat.zero_le _) ?_
  rintro i hIA ihA
  try (dsimp only at hIA)
  try dsimp only
  by_cases hc:i < A.length
  · have g1:decide ((i:Int) < (A.length:Int))=true:=decide_eq_true (by omega)
    have hm:=hmem _ (List.getElem_mem hc)
    refine Wq (qW 60 61 rfl rfl rfl (qK rfl rfl rfl (Nl (Wq (Wt rfl ‹_› (Wk (Wq (Wb (Wq (qW 65 69 rfl rfl rfl (qJ rfl rfl rfl rfl rfl ty51 ty95 (by first|omega|decide|assumption|(simp;done)|(simp;omega)) (Od rfl rfl (Lg rfl rfl ty95 rfl (mems_tk hc)) (qB rfl ty95 (qS rfl rfl rfl rfl rfl ty95 rfl rfl (Sl rfl) (Nl ?_)))))))))))))))
    generalize A[i]=m at *
    have hnp:=hm.np
    have w1:=within_yes hm.asn.1 hm.asn.2
    have w2:=within_yes hm.max4.1 hm.max4.2
    have w3:=within_yes hm.max6.1 hm.max6.2
    have hps:=hm.ports
    have hna:=name_any _ hm.name
    refine Wq (W.joinK (α:=Unit) 1 (fun x=>[(4,.own 0 0)]) (fun x=>up mt 0 (some (memC m))) (fun x=>True) (.cons (t:=45) rfl (by first|exact .inl rfl|exact .inr ⟨rfl,fun _ h=>by cases h⟩|(exact .inl (by assumption)) ) (.cons (t:=46) rfl (by first|exact .inl rfl|exact .inr ⟨rfl,fun _ h=>by cases h⟩|(exact .inl (by assumption)) ) (.cons (t:=47) rfl (by first|exact .inl rfl|exact .inr ⟨rfl,fun _ h=>by cases h⟩|(exact .inl (by assumption)) ) .nil))) ?_ ?_)
    rotate_left
    rintro q hIJ
    try (dsimp only at hIJ)
    try dsimp only [joinT,baseT,List.cons_append,List.nil_append]
    rotate_right
    ·
      obtain ⟨asn,name,set,x4,x6,ps⟩:=m
      rcases hm.set with e|e|e
      all_goals
        dsimp only at e
        subst e
      ·
        have k1:(!(emptyS.toList == (⟨#[]⟩:ByteArray).toList))=false:=by decide +kernel
        have k2:(emptyS.toList == (⟨#[45]⟩:ByteArray).toList)=false:=by decide +kernel
        refine Wq (qW 73 111 rfl rfl rfl (qF rfl rfl ty95 rfl rfl (qL rfl rfl rfl rfl ty3 rfl (Od rfl rfl (C0 (fr:=[]) rfl rfl (w1) fok94 (.cons rfl (.pure rfl) (.cons rfl (.pure rfl) (.cons rfl (.pure rfl) .nil))) rfl) (qO rfl rfl (qM rfl rfl (Gd rfl rfl rfl rfl rfl (Fa rfl rfl ty95 rfl (by decide)) (Gd rfl rfl rfl rfl rfl (Ld rfl rfl rfl rfl ty9 rfl) (Gd rfl rfl rfl rfl rfl (C0 (fr:=[]) rfl rfl (hna) fok96 (.cons rfl (.pure rfl) .nil) rfl) (Gd rfl rfl rfl rfl rfl (Nt rfl rfl) (qP rfl rfl rfl rfl (qM rfl rfl (Gd rfl rfl rfl rfl rfl (Fa rfl rfl ty95 rfl (by decide)) (Gd rfl rfl rfl rfl rfl (Ld rfl rfl rfl rfl ty9 rfl) (Gd rfl rfl rfl rfl rfl (LO.neq_str rfl rfl rfl) (Gd rfl rfl rfl rfl rfl (Mv rfl rfl) (Sd rfl rfl rfl ‹_› rfl (Sd rfl rfl rfl ‹_› rfl (Sd rfl rfl rfl ‹_› rfl (Sd rfl rfl rfl ‹_› rfl (Gd rfl rfl rfl (by first|rfl|assumption) rfl (Pf0 rfl rfl (by first|rfl|assumption) rfl) (qP rfl rfl rfl rfl (qM rfl rfl (Gd rfl rfl rfl rfl rfl (Fa rfl rfl ty95 rfl (by decide)) (Gd rfl rfl rfl rfl rfl (Ld rfl rfl rfl rfl ty9 rfl) (Gd rfl rfl rfl rfl rfl (LO.eql_str rfl rfl rfl) (qP rfl rfl rfl rfl (qM rfl rfl (Gd rfl rfl rfl ‹_› rfl (Fa rfl rfl ty95 rfl (by decide)) (Gd rfl rfl rfl ‹_› rfl (Ld rfl rfl rfl rfl ty3 rfl) (Gd rfl rfl rfl ‹_› rfl (C0 (fr:=[]) rfl rfl (w2) fok94 (.cons rfl (.pure rfl) (.cons rfl (.pure rfl) (.cons rfl (.pure rfl) .nil))) rfl) (Gd rfl rfl rfl ‹_› rfl (Nt rfl rfl) (qP rfl rfl ‹_› rfl (qM rfl rfl (Gd rfl rfl rfl rfl rfl (Fa rfl rfl ty95 rfl (by decide)) (Gd rfl rfl rfl rfl rfl (Ld rfl rfl rfl rfl ty3 rfl) (Gd rfl rfl rfl rfl rfl (C0 (fr:=[]) rfl rfl (w3) fok94 (.cons rfl (.pure rfl) (.cons rfl (.pure rfl) (.cons rfl (.pure rfl) .nil))) rfl) (Gd rfl rfl rfl rfl rfl (Nt rfl rfl) (qP rfl rfl rfl rfl (Nl (Wf rfl rfl (Wk ?_))))))))))))))))))))))))))))))))))))))))))
        intro yJ KJ hJ
        refine W.renameJ [(0,67)] 1 (by decide) ?_ ?_ (hJ (()) (show True from trivial))
        · (repeat' (first|exact LookR.nil|refine LookR.cons ?_ ?_))<;>first|exact .inl ⟨rfl,rfl⟩|exact .inr ⟨rfl,fun _ h=>by cases h⟩|exact .inl ⟨rfl,by first|rfl|assumption ⟩
        · (repeat' (first|exact all_mt|refine all_up ?_ ?_))<;>first|exact ⟨rfl,_,rfl,.inr ⟨rfl,rfl⟩⟩|exact ⟨rfl,_,rfl,.inl rfl⟩|exact ⟨rfl,_,rfl,.inr ⟨rfl,by first|rfl|assumption ⟩⟩
      ·
        have hset:=name_any _ asA_ok
        have k1:(!(asA.toList == (⟨#[]⟩:ByteArray).toList))=true:=by decide +kernel
        have k2:(asA.toList == (⟨#[45]⟩:ByteArray).toList)=false:=by decide +kernel
        refine Wq (qW 73 111 rfl rfl rfl (qF rfl rfl ty95 rfl rfl (qL rfl rfl rfl rfl ty3 rfl (Od rfl rfl (C0 (fr:=[]) rfl rfl (w1) fok94 (.cons rfl (.pure rfl) (.cons rfl (.pure rfl) (.cons rfl (.pure rfl) .nil))) rfl) (qO rfl rfl (qM rfl rfl (Gd rfl rfl rfl rfl rfl (Fa rfl rfl ty95 rfl (by decide)) (Gd rfl rfl rfl rfl rfl (Ld rfl rfl rfl rfl ty9 rfl) (Gd rfl rfl rfl rfl rfl (C0 (fr:=[]) rfl rfl (hna) fok96 (.cons rfl (.pure rfl) .nil) rfl) (Gd rfl rfl rfl rfl rfl (Nt rfl rfl) (qP rfl rfl rfl rfl (qM rfl rfl (Gd rfl rfl rfl rfl rfl (Fa rfl rfl ty95 rfl (by decide)) (Gd rfl rfl rfl rfl rfl (Ld rfl rfl rfl rfl ty9 rfl) (Gd rfl rfl rfl rfl rfl (LO.neq_str rfl rfl rfl) (Gd rfl rfl rfl rfl rfl (Mv rfl rfl) (Gd rfl rfl rfl ‹_› rfl (Fa rfl rfl ty95 rfl (by decide)) (Gd rfl rfl rfl ‹_› rfl (Ld rfl rfl rfl rfl ty9 rfl) (Gd rfl rfl rfl ‹_› rfl (C0 (fr:=[]) rfl rfl (hset) fok96 (.cons rfl (.pure rfl) .nil) rfl) (Gd rfl rfl rfl ‹_› rfl (Nt rfl rfl) (Gd rfl rfl rfl (by first|rfl|assumption) rfl (Pt rfl rfl (by first|rfl|assumption) rfl) (qP rfl rfl rfl rfl (qM rfl rfl (Gd rfl rfl rfl rfl rfl (Fa rfl rfl ty95 rfl (by decide)) (Gd rfl rfl rfl rfl rfl (Ld rfl rfl rfl rfl ty9 rfl) (Gd rfl rfl rfl rfl rfl (LO.eql_str rfl rfl rfl) (qP rfl rfl rfl rfl (qM rfl rfl (Gd rfl rfl rfl ‹_› rfl (Fa rfl rfl ty95 rfl (by decide)) (Gd rfl rfl rfl ‹_› rfl (Ld rfl rfl rfl rfl ty3 rfl) (Gd rfl rfl rfl ‹_› rfl (C0 (fr:=[]) rfl rfl (w2) fok94 (.cons rfl (.pure rfl) (.cons rfl (.pure rfl) (.cons rfl (.pure rfl) .nil))) rfl) (Gd rfl rfl rfl ‹_› rfl (Nt rfl rfl) (qP rfl rfl ‹_› rfl (qM rfl rfl (Gd rfl rfl rfl rfl rfl (Fa rfl rfl ty95 rfl (by decide)) (Gd rfl rfl rfl rfl rfl (Ld rfl rfl rfl rfl ty3 rfl) (Gd rfl rfl rfl rfl rfl (C0 (fr:=[]) rfl rfl (w3) fok94 (.cons rfl (.pure rfl) (.cons rfl (.pure rfl) (.cons rfl (.pure rfl) .nil))) rfl) (Gd rfl rfl rfl rfl rfl (Nt rfl rfl) (qP rfl rfl rfl rfl (Nl (Wf rfl rfl (Wk ?_))))))))))))))))))))))))))))))))))))))))))
        intro yJ KJ hJ
        refine W.renameJ [(0,67)] 1 (by decide) ?_ ?_ (hJ (()) (show True from trivial))
        · (repeat' (first|exact LookR.nil|refine LookR.cons ?_ ?_))<;>first|exact .inl ⟨rfl,rfl⟩|exact .inr ⟨rfl,fun _ h=>by cases h⟩|exact .inl ⟨rfl,by first|rfl|assumption ⟩
        · (repeat' (first|exact all_mt|refine all_up ?_ ?_))<;>first|exact ⟨rfl,_,rfl,.inr ⟨rfl,rfl⟩⟩|exact ⟨rfl,_,rfl,.inl rfl⟩|exact ⟨rfl,_,rfl,.inr ⟨rfl,by first|rfl|assumption ⟩⟩
      ·
        have hset:=name_any _ asB_ok
        have k1:(!(asB.toList == (⟨#[]⟩:ByteArray).toList))=true:=by decide +kernel
        have k2:(asB.toList == (⟨#[45]⟩:ByteArray).toList)=false:=by decide +kernel
        refine Wq (qW 73 111 rfl rfl rfl (qF rfl rfl ty95 rfl rfl (qL rfl rfl rfl rfl ty3 rfl (Od rfl rfl (C0 (fr:=[]) rfl rfl (w1) fok94 (.cons rfl (.pure rfl) (.cons rfl (.pure rfl) (.cons rfl (.pure rfl) .nil))) rfl) (qO rfl rfl (qM rfl rfl (Gd rfl rfl rfl rfl rfl (Fa rfl rfl ty95 rfl (by decide)) (Gd rfl rfl rfl rfl rfl (Ld rfl rfl rfl rfl ty9 rfl) (Gd rfl rfl rfl rfl rfl (C0 (fr:=[]) rfl rfl (hna) fok96 (.cons rfl (.pure rfl) .nil) rfl) (Gd rfl rfl rfl rfl rfl (Nt rfl rfl) (qP rfl rfl rfl rfl (qM rfl rfl (Gd rfl rfl rfl rfl rfl (Fa rfl rfl ty95 rfl (by decide)) (Gd rfl rfl rfl rfl rfl (Ld rfl rfl rfl rfl ty9 rfl) (Gd rfl rfl rfl rfl rfl (LO.neq_str rfl rfl rfl) (Gd rfl rfl rfl rfl rfl (Mv rfl rfl) (Gd rfl rfl rfl ‹_› rfl (Fa rfl rfl ty95 rfl (by decide)) (Gd rfl rfl rfl ‹_› rfl (Ld rfl rfl rfl rfl ty9 rfl) (Gd rfl rfl rfl ‹_› rfl (C0 (fr:=[]) rfl rfl (hset) fok96 (.cons rfl (.pure rfl) .nil) rfl) (Gd rfl rfl rfl ‹_› rfl (Nt rfl rfl) (Gd rfl rfl rfl (by first|rfl|assumption) rfl (Pt rfl rfl (by first|rfl|assumption) rfl) (qP rfl rfl rfl rfl (qM rfl rfl (Gd rfl rfl rfl rfl rfl (Fa rfl rfl ty95 rfl (by decide)) (Gd rfl rfl rfl rfl rfl (Ld rfl rfl rfl rfl ty9 rfl) (Gd rfl rfl rfl rfl rfl (LO.eql_str rfl rfl rfl) (qP rfl rfl rfl rfl (qM rfl rfl (Gd rfl rfl rfl ‹_› rfl (Fa rfl rfl ty95 rfl (by decide)) (Gd rfl rfl rfl ‹_› rfl (Ld rfl rfl rfl rfl ty3 rfl) (Gd rfl rfl rfl ‹_› rfl (C0 (fr:=[]) rfl rfl (w2) fok94 (.cons rfl (.pure rfl) (.cons rfl (.pure rfl) (.cons rfl (.pure rfl) .nil))) rfl) (Gd rfl rfl rfl ‹_› rfl (Nt rfl rfl) (qP rfl rfl ‹_› rfl (qM rfl rfl (Gd rfl rfl rfl rfl rfl (Fa rfl rfl ty95 rfl (by decide)) (Gd rfl rfl rfl rfl rfl (Ld rfl rfl rfl rfl ty3 rfl) (Gd rfl rfl rfl rfl rfl (C0 (fr:=[]) rfl rfl (w3) fok94 (.cons rfl (.pure rfl) (.cons rfl (.pure rfl) (.cons rfl (.pure rfl) .nil))) rfl) (Gd rfl rfl rfl rfl rfl (Nt rfl rfl) (qP rfl rfl rfl rfl (Nl (Wf rfl rfl (Wk ?_))))))))))))))))))))))))))))))))))))))))))
        intro yJ KJ hJ
        refine W.renameJ [(0,67)] 1 (by decide) ?_ ?_ (hJ (()) (show True from trivial))
        · (repeat' (first|exact LookR.nil|refine LookR.cons ?_ ?_))<;>first|exact .inl ⟨rfl,rfl⟩|exact .inr ⟨rfl,fun _ h=>by cases h⟩|exact .inl ⟨rfl,by first|rfl|assumption ⟩
        · (repeat' (first|exact all_mt|refine all_up ?_ ?_))<;>first|exact ⟨rfl,_,rfl,.inr ⟨rfl,rfl⟩⟩|exact ⟨rfl,_,rfl,.inl rfl⟩|exact ⟨rfl,_,rfl,.inr ⟨rfl,by first|rfl|assumption ⟩⟩
    refine Wq (qW 120 124 rfl rfl rfl (qF rfl rfl ty95 rfl rfl (qL rfl rfl rfl rfl ty93 rfl (qH rfl rfl rfl ty93 (qM rfl rfl (Nl ?_))))))
    generalize m.ports=ps at *
    refine Wb (W.rename [] 0 (T':=up (up (up (up (up (up mt 45 (some (.isl (memsC A) A.length))) 46 (some (.base (.int .i64 (A.length:Int))))) 47 (some (.base (.int .i64 (i:Int))))) 90 (some (.isl (prtsC ps) ps.length))) 91 (some (.base (.int .i64 (ps.length:Int))))) 92 (some (.base (.int .i64 (0:Int))))) (H':=mt) (by decide) ?_ ?_ ?_)
    · (repeat' (first|exact all_mt|refine all_up ?_ ?_))<;>first|exact .inl ⟨rfl,rfl⟩|exact .inr ⟨rfl,fun _ h=>by cases h⟩|exact .inl ⟨rfl,by first|rfl|assumption ⟩
    · (repeat' (first|exact all_mt|refine all_up ?_ ?_))<;>first|exact ⟨rfl,_,rfl,.inr ⟨rfl,rfl⟩⟩|exact ⟨rfl,_,rfl,.inl rfl⟩|exact ⟨rfl,_,rfl,.inr ⟨rfl,by first|rfl|assumption ⟩⟩
    refine W.loop_ind (α:=Nat) (fun x=>ps.length - x) 0 (fun x=>up (up (up (up (up (up mt 45 (some (.isl (memsC A) A.length))) 46 (some (.base (.int .i64 (A.length:Int))))) 47 (some (.base (.int .i64 (i:Int))))) 90 (some (.isl (prtsC ps) ps.length))) 91 (some (.base (.int .i64 (ps.length:Int))))) 92 (some (.base (.int .i64 (x:Int))))) (fun x=>mt) (fun x=>x≤ps.length) 0 (show 0≤ps.length from Nat.zero_le _) ?_
    rintro j hIB ihB
    try (dsimp only at hIB)
    try dsimp only
    by_cases hc2:j < ps.length
    · have g2:decide ((j:Int) < (ps.length:Int))=true:=decide_eq_true (by omega)
      have hodd:=odd_any _ (hps _ (List.getElem_mem hc2))
      refine Wq (qW 128 129 rfl rfl rfl (qK rfl rfl rfl (Nl (Wq (Wt rfl ‹_› (Wk (Wq (Wb (Wq (qW 133 137 rfl rfl rfl (qJ rfl rfl rfl rfl rfl ty93 ty102 (by first|omega|decide|assumption|(simp;done)|(simp;omega)) (Od rfl rfl (Lg rfl rfl ty102 rfl (prts_tk hc2)) (qB rfl ty102 (qS rfl rfl rfl rfl rfl ty102 rfl rfl (Sl rfl) (Nl ?_)))))))))))))))
      generalize ps[j]=p at *
      refine Wq (qW 141 143 rfl rfl rfl (qG rfl rfl rfl ty102 rfl (Tl rfl) (Od rfl rfl (C0 (fr:=[]) rfl rfl (hodd) fok97 (.cons rfl (.pure rfl) .nil) rfl) (Nl (Wf rfl rfl (Wk (qW 152 154 rfl rfl rfl (qZ rfl rfl rfl (by (first|exact IntWalk.i64_in _ (by omega)|assumption)) (qM rfl rfl (Nl (WL.rename [] 0 (by decide) ?_ ?_ (ihB (j + 1) (show ps.length - (j + 1) < ps.length - j from by omega) (show (j + 1)≤ps.length from by omega)))))))))))))
      · (repeat' (first|exact all_mt|refine all_up ?_ ?_))<;>first|exact .inl ⟨rfl,rfl⟩|exact .inr ⟨rfl,fun _ h=>by cases h⟩|exact .inl ⟨rfl,by first|rfl|assumption ⟩
      · (repeat' (first|exact all_mt|refine all_up ?_ ?_))<;>first|exact ⟨rfl,_,rfl,.inr ⟨rfl,rfl⟩⟩|exact ⟨rfl,_,rfl,.inl rfl⟩|exact ⟨rfl,_,rfl,.inr ⟨rfl,by first|rfl|assumption ⟩⟩
    · have g2:decide ((j:Int) < (ps.length:Int))=false:=decide_eq_false (by omega)
      refine Wq (qW 128 129 rfl rfl rfl (qK rfl rfl rfl (Nl (Wq (Wf rfl ‹_› (Wx ?_))))))
      clear ihB
      refine qW 158 160 rfl rfl rfl (qZ rfl rfl rfl (by (first|exact IntWalk.i64_in _ (by omega)|assumption)) (qM rfl rfl (Nl (WL.rename [] 0 (by decide) ?_ ?_ (ihA (i + 1) (show A.length - (i + 1) < A.length - i from by omega) (show (i + 1)≤A.length from by omega))))))
      · (repeat' (first|exact all_mt|refine all_up ?_ ?_))<;>first|exact .inl ⟨rfl,rfl⟩|exact .inr ⟨rfl,fun _ h=>by cases h⟩|exact .inl ⟨rfl,by first|rfl|assumption ⟩
      · (repeat' (first|exact all_mt|refine all_up ?_ ?_))<;>first|exact ⟨rfl,_,rfl,.inr ⟨rfl,rfl⟩⟩|exact ⟨rfl,_,rfl,.inl rfl⟩|exact ⟨rfl,_,rfl,.inr ⟨rfl,by first|rfl|assumption ⟩⟩
  · have g1:decide ((i:Int) < (A.length:Int))=false:=decide_eq_false (by omega)
    refine Wq (qW 60 61 rfl rfl rfl (qK rfl rfl rfl (Nl (Wq (Wf rfl ‹_› (Wx (Wq (qW 164 165 rfl rfl rfl (qA rfl rfl (Nl (Wz ⟨.inl rfl,_,mt,Rc (Rt rfl) (Rn),all_mt,?_⟩)))))))))))
    exact ⟨rfl,rfl⟩
end Go.Proofs.YtcidmiacfjdepaaGreatDoor
