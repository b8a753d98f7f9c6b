/-
  Databases that the document's check lets pass. The document's check lets a right database pass.
-/
import Derived.Test.YtlcndmciognneaaGreatDoorJe
import Derived.Test.YtlcndmciognneaaGreatDoorMab
namespace Go.Proofs.YtlcndmciognneaaGreatDoor
open Go.RowKit
def emptyS:ByteArray:=⟨#[]⟩
def asA:ByteArray:=⟨#[65,83,45,65]⟩
def asB:ByteArray:=⟨#[65,83,45,66]⟩
def nameB (s:ByteArray):Bool:=decide (1≤s.size) && decide (s.size≤32) && (List.range s.size).all fun i=>match s[i]? with
  | some b=>decide ((97≤b.toNat∧b.toNat≤122)∨(65≤b.toNat∧b.toNat≤90)∨(48≤b.toNat∧b.toNat≤57)∨b.toNat=45∨b.toNat=58)
  | none=>true
theorem NameOk.of {s:ByteArray} (h:nameB s=true):NameOk s:=by
  unfold nameB at h
  simp only [Bool.and_eq_true,decide_eq_true_eq,List.all_eq_true,List.mem_range] at h
  refine ⟨h.1.1,h.1.2,fun i b hb=>?_⟩
  have hi:i < s.size:=by
    rcases Nat.lt_or_ge i s.size with h1|h1
    · exact h1
    · rw [getElem?_neg s i (by omega)] at hb;cases hb
  have:=h.2 i hi
  rw [hb] at this
  simp only [decide_eq_true_eq] at this
  unfold okC
  omega
theorem asA_ok:NameOk asA:=.of (by decide +kernel)
theorem asB_ok:NameOk asB:=.of (by decide +kernel)
structure MemOk (m:Mem):Prop where
  asn:1≤m.asn∧m.asn≤4294967295
  name:NameOk m.name
  set:m.set=emptyS∨m.set=asA∨m.set=asB
  max4:0≤m.max4∧m.max4≤512
  max6:0≤m.max6∧m.max6≤512
  np:1≤m.ports.length∧m.ports.length≤4
  ports:∀ p,p∈m.ports→PrtOk p
structure DbOk (d:Db):Prop where
  l4:d.lan4=lan4
  l6:d.lan6=lan6
  ns:d.servers.length≤4
  nm:d.members.length≤32
  mem:∀ m,m∈d.servers++d.members→MemOk m
set_option maxHeartbeats 1000000 in
theorem many_any (d:Db) (hd:DbOk d):AFn Tryz.prog 131 0 [.agg (dbC d)] mt (.base (.bool false)) mt:=by
  refine AFn.eq Tryz.func131 rfl rfl (Nat.le_of_ble_eq_true rfl) ?_
  have h4:=hd.ns
  have h32:=hd.nm
  have hmem:=hd.mem
  have hall:=all_any d (by omega) (by omega)
  obtain ⟨A,hA⟩:∃ A,A=d.servers++d.members:=⟨_,rfl⟩
  rw [← hA] at hall hmem
  have hAl:A.length≤2000:=by rw [hA,List.length_append];omega
  have g4:decide ((d.servers.length:Int) > 4)=false:=decide_eq_false (by omega)
  have g32:decide ((d.members.length:Int) > 32)=false:=decide_eq_false (by omega)
  refine Wq (qW 0 2 rfl (qC rfl (qA rfl (Nl (Wq (Wq (qW 6 16 rfl (qF rfl ty105 rfl (qL rfl ty103 rfl (qH rfl ty103 (Od rfl rfl (Gt0 rfl rfl rfl) (qM rfl (qU rfl ‹_› rfl (Fa rfl rfl ty105 rfl (by decide)) (qU rfl ‹_› rfl (Ld rfl rfl rfl rfl ty103 rfl) (qU rfl ‹_› rfl (Ln rfl rfl rfl ty103) (qU rfl ‹_› rfl (Gt0 rfl rfl rfl) (qP rfl ‹_› rfl (Nl (Wo rfl ‹_› (Wu (Wq (Wq (qW 25 29 rfl (qG rfl ty105 rfl (Tl rfl) (qY rfl (hall) fok135 rfl (qH rfl ty103 (qM rfl (Nl (Wb (W.rename [] 0 (T':=up (up (up mt 18 (some (.isl (memsC A) A.length))) 19 (some (.base (.int .i64 (A.length:Int))))) 20 (some (.base (.int .i64 (0:Int))))) (H':=mt) (by decide) ?_ ?_ ?_))))))))))))))))))))))))))))))
  · exact aU (lR rfl) (aU (lR rfl) (aU (lR rfl) aM))
  · exact aM
  refine W.loop_ind (α:=Nat) (fun x=>A.length - x) 0 (fun x=>up (up (up mt 18 (some (.isl (memsC A) A.length))) 19 (some (.base (.int .i64 (A.length:Int))))) 20 (some (.base (.int .i64 (x:Int))))) (fun x=>mt) (fun x=>x≤A.length) 0 (show 0≤A.length from Nat.zero_le _) ?_
  rintro i hIA ihA
  try (dsimp only at hIA)
  try dsimp only
  by_cases hc:i < A.length
  · have g1:decide ((i:Int) < (A.length:Int))=true:=decide_eq_true (by omega)
    have hm:=hmem _ (List.getElem_mem hc)
    refine Wq (qW 33 34 rfl (qK rfl (Nl (Wq (Wt rfl ‹_› (Wu (Wq (Wb (Wq (qW 38 42 rfl (qJ rfl rfl ty103 ty150 (by omega) (Od rfl rfl (Lg rfl rfl ty150 rfl (mems_tk hc)) (qB rfl ty150 (qS rfl ty150 (Sl rfl) rfl (Nl ?_)))))))))))))))
    generalize A[i]=m at *
    have hnp:=hm.np
    have w1:=within_yes (n:=(m.ports.length:Int)) (l:=1) (h:=4) (by omega) (by omega)
    have hps:=hm.ports
    refine Wq (Wq (qW 46 51 rfl (qF rfl ty150 rfl (qL rfl ty148 rfl (qH rfl ty148 (qY rfl (w1) fok168 rfl (qO rfl (Nl (Wo rfl rfl (Wu (Wq (qW 60 64 rfl (qF rfl ty150 rfl (qL rfl ty148 rfl (qH rfl ty148 (qM rfl (Nl ?_)))))))))))))))))
    generalize m.ports=ps at *
    refine Wb (W.rename [] 0 (T':=up (up (up (up (up (up mt 18 (some (.isl (memsC A) A.length))) 19 (some (.base (.int .i64 (A.length:Int))))) 20 (some (.base (.int .i64 (i:Int))))) 30 (some (.isl (prtsC ps) ps.length))) 31 (some (.base (.int .i64 (ps.length:Int))))) 32 (some (.base (.int .i64 (0:Int))))) (H':=mt) (by decide) ?_ ?_ ?_)
    · exact aU (lR rfl) (aU (lR rfl) (aU (lR rfl) (aU (lR rfl) (aU (lR rfl) (aU (lR rfl) aM)))))
    · exact aM
    refine W.loop_ind (α:=Nat) (fun x=>ps.length - x) 0 (fun x=>up (up (up (up (up (up mt 18 (some (.isl (memsC A) A.length))) 19 (some (.base (.int .i64 (A.length:Int))))) 20 (some (.base (.int .i64 (i:Int))))) 30 (some (.isl (prtsC ps) ps.length))) 31 (some (.base (.int .i64 (ps.length:Int))))) 32 (some (.base (.int .i64 (x:Int))))) (fun x=>mt) (fun x=>x≤ps.length) 0 (show 0≤ps.length from Nat.zero_le _) ?_
    rintro j hIB ihB
    try (dsimp only at hIB)
    try dsimp only
    by_cases hc2:j < ps.length
    · have g2:decide ((j:Int) < (ps.length:Int))=true:=decide_eq_true (by omega)
      have hp:=(hps _ (List.getElem_mem hc2)).nm
      refine Wq (qW 68 69 rfl (qK rfl (Nl (Wq (Wt rfl ‹_› (Wu (Wq (Wb (Wq (qW 73 77 rfl (qJ rfl rfl ty148 ty157 (by omega) (Od rfl rfl (Lg rfl rfl ty157 rfl (prts_tk hc2)) (qB rfl ty157 (qS rfl ty157 (Sl rfl) rfl (Nl ?_)))))))))))))))
      generalize ps[j]=p at *
      have w2:=within_yes (n:=(p.macs.length:Int)) (l:=1) (h:=2) (by omega) (by omega)
      refine Wq (qW 81 86 rfl (qF rfl ty157 rfl (qL rfl ty36 rfl (qH rfl ty36 (qY rfl (w2) fok168 rfl (qO rfl (Nl (Wo rfl rfl (Wu (qW 95 97 rfl (qZ rfl (iW _ (by omega)) (qM rfl (Nl (WL.rename [] 0 (by decide) ?_ ?_ (ihB (j + 1) (show ps.length - (j + 1) < ps.length - j from by omega) (show (j + 1)≤ps.length from by omega))))))))))))))))
      · exact aU (lR rfl) (aU (lR rfl) (aU (lR rfl) (aU (lR rfl) (aU (lR rfl) (aU (lR rfl) aM)))))
      · exact aM
    · have g2:decide ((j:Int) < (ps.length:Int))=false:=decide_eq_false (by omega)
      refine Wq (qW 68 69 rfl (qK rfl (Nl (Wq (Wo rfl ‹_› (Wx ?_))))))
      clear ihB
      refine qW 101 103 rfl (qZ rfl (iW _ (by omega)) (qM rfl (Nl (WL.rename [] 0 (by decide) ?_ ?_ (ihA (i + 1) (show A.length - (i + 1) < A.length - i from by omega) (show (i + 1)≤A.length from by omega))))))
      · exact aU (lR rfl) (aU (lR rfl) (aU (lR rfl) aM))
      · exact aM
  · have g1:decide ((i:Int) < (A.length:Int))=false:=decide_eq_false (by omega)
    refine Wq (qW 33 34 rfl (qK rfl (Nl (Wq (Wo rfl ‹_› (Wx (Wq (qW 107 108 rfl (qA rfl (Nl (Wz ⟨.inl rfl,_,mt,Rc (Rt rfl) (Rv),aM,?_⟩)))))))))))
    exact ⟨rfl,rfl⟩
theorem lan4V:AFn Tryz.prog 169 0 [.agg (preC lan4)] mt (.base (.bool true)) mt:=by
  have:=pvalidX_any lan4 24 rfl (by decide) (by unfold U64;decide) (by unfold U64;decide) (by decide)
  rwa [lan_ok.1] at this
theorem lan6V:AFn Tryz.prog 169 0 [.agg (preC lan6)] mt (.base (.bool true)) mt:=by
  have:=pvalidX_any lan6 64 rfl (by decide) (by unfold U64;decide) (by unfold U64;decide) (by decide)
  rwa [lan_ok.2] at this
set_option maxHeartbeats 2000000 in
theorem wrong_any (d:Db) (hd:DbOk d):AFn Tryz.prog 132 0 [.agg (dbC d)] mt (.base (.bool false)) mt:=by
  refine AFn.eq Tryz.func132 rfl rfl (Nat.le_of_ble_eq_true rfl) ?_
  have h4:=hd.ns
  have h32:=hd.nm
  have hmem:=hd.mem
  have e4:=hd.l4
  have e6:=hd.l6
  have hall:=all_any d (by omega) (by omega)
  obtain ⟨A,hA⟩:∃ A,A=d.servers++d.members:=⟨_,rfl⟩
  rw [← hA] at hall hmem
  have hAl:A.length≤2000:=by rw [hA,List.length_append];omega
  clear hd hA
  obtain ⟨l4,l6,sv,mb⟩:=d
  dsimp only at e4 e6
  subst e4 e6
  have v4:=lan4V
  have v6:=lan6V
  have w4:=within_yes (n:=24) (l:=8) (h:=30) (by decide) (by decide)
  have w6:=within_yes (n:=64) (l:=32) (h:=64) (by decide) (by decide)
  refine Wq (qW 0 2 rfl (qC rfl (qA rfl (Nl (Wq (Wq (qW 6 43 rfl (qF rfl ty105 rfl (qG rfl ty56 rfl (Tl rfl) (qY rfl (v4) fok169 rfl (qO rfl (qM rfl (qU rfl rfl rfl (Fa rfl rfl ty105 rfl (by decide)) (qU rfl rfl rfl (Fa rfl rfl ty56 rfl (by decide)) (qU rfl rfl rfl (Fa rfl rfl ty54 rfl (by decide)) (qU rfl rfl rfl (Ld rfl rfl rfl rfl ty4 rfl) (qP rfl rfl rfl (qM rfl (qU rfl rfl rfl (Fa rfl rfl ty105 rfl (by decide)) (qU rfl rfl rfl (Fa rfl rfl ty56 rfl (by decide)) (qU rfl rfl rfl (Ld rfl rfl rfl rfl ty3 rfl) (qU rfl rfl rfl (C0 (fr:=[]) rfl rfl (w4) fok168 (.cons rfl (.pure rfl) (.cons rfl (.pure rfl) (.cons rfl (.pure rfl) .nil))) rfl) (qU rfl rfl rfl (Nt rfl rfl) (qP rfl rfl rfl (qM rfl (qU rfl rfl rfl (Fa rfl rfl ty105 rfl (by decide)) (qU rfl rfl rfl (La rfl rfl rfl ty56 rfl (Tl rfl)) (qU rfl rfl rfl (C0 (fr:=[]) rfl rfl (v6) fok169 (.cons rfl (.pure rfl) .nil) rfl) (qU rfl rfl rfl (Nt rfl rfl) (qP rfl rfl rfl (qM rfl (qU rfl rfl rfl (Fa rfl rfl ty105 rfl (by decide)) (qU rfl rfl rfl (Fa rfl rfl ty56 rfl (by decide)) (qU rfl rfl rfl (Fa rfl rfl ty54 rfl (by decide)) (qU rfl rfl rfl (Ld rfl rfl rfl rfl ty4 rfl) (qU rfl rfl rfl (Nt rfl rfl) (qP rfl rfl rfl (qM rfl (qU rfl rfl rfl (Fa rfl rfl ty105 rfl (by decide)) (qU rfl rfl rfl (Fa rfl rfl ty56 rfl (by decide)) (qU rfl rfl rfl (Ld rfl rfl rfl rfl ty3 rfl) (qU rfl rfl rfl (C0 (fr:=[]) rfl rfl (w6) fok168 (.cons rfl (.pure rfl) (.cons rfl (.pure rfl) (.cons rfl (.pure rfl) .nil))) rfl) (qU rfl rfl rfl (Nt rfl rfl) (qP rfl rfl rfl (Nl (Wo rfl rfl (Wu (Wq (Wq (qW 52 56 rfl (qG rfl ty105 rfl (Tl rfl) (qY rfl (hall) fok135 rfl (qH rfl ty103 (qM rfl (Nl (Wb (W.rename [] 0 (T':=up (up (up mt 45 (some (.isl (memsC A) A.length))) 46 (some (.base (.int .i64 (A.length:Int))))) 47 (some (.base (.int .i64 (0:Int))))) (H':=mt) (by decide) ?_ ?_ ?_)))))))))))))))))))))))))))))))))))))))))))))))))))))))))
  · exact aU (lR rfl) (aU (lR rfl) (aU (lR rfl) aM))
  · exact aM
  refine W.loop_ind (α:=Nat) (fun x=>A.length - x) 0 (fun x=>up (up (up mt 45 (some (.isl (memsC A) A.length))) 46 (some (.base (.int .i64 (A.length:Int))))) 47 (some (.base (.int .i64 (x:Int))))) (fun x=>mt) (fun x=>x≤A.length) 0 (show 0≤A.length from Nat.zero_le _) ?_
  rintro i hIA ihA
  try (dsimp only at hIA)
  try dsimp only
  by_cases hc:i < A.length
  · have g1:decide ((i:Int) < (A.length:Int))=true:=decide_eq_true (by omega)
    have hm:=hmem _ (List.getElem_mem hc)
    refine Wq (qW 60 61 rfl (qK rfl (Nl (Wq (Wt rfl ‹_› (Wu (Wq (Wb (Wq (qW 65 69 rfl (qJ rfl rfl ty103 ty150 (by omega) (Od rfl rfl (Lg rfl rfl ty150 rfl (mems_tk hc)) (qB rfl ty150 (qS rfl ty150 (Sl rfl) rfl (Nl ?_)))))))))))))))
    generalize A[i]=m at *
    have hnp:=hm.np
    have w1:=within_yes hm.asn.1 hm.asn.2
    have w2:=within_yes hm.max4.1 hm.max4.2
    have w3:=within_yes hm.max6.1 hm.max6.2
    have hps:=hm.ports
    have hna:=name_any _ hm.name
    refine Wq (W.joinK (α:=Unit) 1 (fun x=>[(4,.own 0 0)]) (fun x=>up mt 0 (some (memC m))) (fun x=>True) (.cons (t:=45) rfl (by exact .inl rfl) (.cons (t:=46) rfl (by exact .inl rfl) (.cons (t:=47) rfl (by exact .inl rfl) .nil))) ?_ ?_)
    rotate_left
    rintro q hIJ
    try (dsimp only at hIJ)
    try dsimp only [joinT,baseT,List.cons_append,List.nil_append]
    rotate_right
    ·
      obtain ⟨asn,name,set,x4,x6,ps⟩:=m
      rcases hm.set with e|e|e
      all_goals
        dsimp only at e
        subst e
      ·
        have k1:(!(emptyS.toList == (⟨#[]⟩:ByteArray).toList))=false:=by decide +kernel
        have k2:(emptyS.toList == (⟨#[45]⟩:ByteArray).toList)=false:=by decide +kernel
        refine Wq (qW 73 111 rfl (qF rfl ty150 rfl (qL rfl ty3 rfl (qY rfl (w1) fok168 rfl (qO rfl (qM rfl (qU rfl rfl rfl (Fa rfl rfl ty150 rfl (by decide)) (qU rfl rfl rfl (Ld rfl rfl rfl rfl ty9 rfl) (qU rfl rfl rfl (C0 (fr:=[]) rfl rfl (hna) fok170 (.cons rfl (.pure rfl) .nil) rfl) (qU rfl rfl rfl (Nt rfl rfl) (qP rfl rfl rfl (qM rfl (qU rfl rfl rfl (Fa rfl rfl ty150 rfl (by decide)) (qU rfl rfl rfl (Ld rfl rfl rfl rfl ty9 rfl) (qU rfl rfl rfl (LO.neq_str rfl rfl rfl) (qU rfl rfl rfl (Mv rfl rfl) (qD rfl ‹_› rfl (qD rfl ‹_› rfl (qD rfl ‹_› rfl (qD rfl ‹_› rfl (qU rfl rfl rfl (Pf0 rfl rfl ‹_› rfl) (qP rfl rfl rfl (qM rfl (qU rfl rfl rfl (Fa rfl rfl ty150 rfl (by decide)) (qU rfl rfl rfl (Ld rfl rfl rfl rfl ty9 rfl) (qU rfl rfl rfl (LO.eql_str rfl rfl rfl) (qP rfl rfl rfl (qM rfl (qU rfl ‹_› rfl (Fa rfl rfl ty150 rfl (by decide)) (qU rfl ‹_› rfl (Ld rfl rfl rfl rfl ty3 rfl) (qU rfl ‹_› rfl (C0 (fr:=[]) rfl rfl (w2) fok168 (.cons rfl (.pure rfl) (.cons rfl (.pure rfl) (.cons rfl (.pure rfl) .nil))) rfl) (qU rfl ‹_› rfl (Nt rfl rfl) (qP rfl ‹_› rfl (qM rfl (qU rfl rfl rfl (Fa rfl rfl ty150 rfl (by decide)) (qU rfl rfl rfl (Ld rfl rfl rfl rfl ty3 rfl) (qU rfl rfl rfl (C0 (fr:=[]) rfl rfl (w3) fok168 (.cons rfl (.pure rfl) (.cons rfl (.pure rfl) (.cons rfl (.pure rfl) .nil))) rfl) (qU rfl rfl rfl (Nt rfl rfl) (qP rfl rfl rfl (Nl (Wo rfl rfl (Wu ?_))))))))))))))))))))))))))))))))))))))))))
        intro yJ KJ hJ
        refine W.renameJ [(0,67)] 1 (by decide) ?_ ?_ (hJ (()) (show True from trivial))
        · exact lC (lI rfl) (lC (lR rfl) (lC (lR rfl) (lC (lR rfl) lN)))
        · exact aU (kR rfl) aM
      ·
        have hset:=name_any _ asA_ok
        have k1:(!(asA.toList == (⟨#[]⟩:ByteArray).toList))=true:=by decide +kernel
        have k2:(asA.toList == (⟨#[45]⟩:ByteArray).toList)=false:=by decide +kernel
        refine Wq (qW 73 111 rfl (qF rfl ty150 rfl (qL rfl ty3 rfl (qY rfl (w1) fok168 rfl (qO rfl (qM rfl (qU rfl rfl rfl (Fa rfl rfl ty150 rfl (by decide)) (qU rfl rfl rfl (Ld rfl rfl rfl rfl ty9 rfl) (qU rfl rfl rfl (C0 (fr:=[]) rfl rfl (hna) fok170 (.cons rfl (.pure rfl) .nil) rfl) (qU rfl rfl rfl (Nt rfl rfl) (qP rfl rfl rfl (qM rfl (qU rfl rfl rfl (Fa rfl rfl ty150 rfl (by decide)) (qU rfl rfl rfl (Ld rfl rfl rfl rfl ty9 rfl) (qU rfl rfl rfl (LO.neq_str rfl rfl rfl) (qU rfl rfl rfl (Mv rfl rfl) (qU rfl ‹_› rfl (Fa rfl rfl ty150 rfl (by decide)) (qU rfl ‹_› rfl (Ld rfl rfl rfl rfl ty9 rfl) (qU rfl ‹_› rfl (C0 (fr:=[]) rfl rfl (hset) fok170 (.cons rfl (.pure rfl) .nil) rfl) (qU rfl ‹_› rfl (Nt rfl rfl) (qU rfl rfl rfl (Pt rfl rfl ‹_› rfl) (qP rfl rfl rfl (qM rfl (qU rfl rfl rfl (Fa rfl rfl ty150 rfl (by decide)) (qU rfl rfl rfl (Ld rfl rfl rfl rfl ty9 rfl) (qU rfl rfl rfl (LO.eql_str rfl rfl rfl) (qP rfl rfl rfl (qM rfl (qU rfl ‹_› rfl (Fa rfl rfl ty150 rfl (by decide)) (qU rfl ‹_› rfl (Ld rfl rfl rfl rfl ty3 rfl) (qU rfl ‹_› rfl (C0 (fr:=[]) rfl rfl (w2) fok168 (.cons rfl (.pure rfl) (.cons rfl (.pure rfl) (.cons rfl (.pure rfl) .nil))) rfl) (qU rfl ‹_› rfl (Nt rfl rfl) (qP rfl ‹_› rfl (qM rfl (qU rfl rfl rfl (Fa rfl rfl ty150 rfl (by decide)) (qU rfl rfl rfl (Ld rfl rfl rfl rfl ty3 rfl) (qU rfl rfl rfl (C0 (fr:=[]) rfl rfl (w3) fok168 (.cons rfl (.pure rfl) (.cons rfl (.pure rfl) (.cons rfl (.pure rfl) .nil))) rfl) (qU rfl rfl rfl (Nt rfl rfl) (qP rfl rfl rfl (Nl (Wo rfl rfl (Wu ?_))))))))))))))))))))))))))))))))))))))))))
        intro yJ KJ hJ
        refine W.renameJ [(0,67)] 1 (by decide) ?_ ?_ (hJ (()) (show True from trivial))
        · exact lC (lI rfl) (lC (lR rfl) (lC (lR rfl) (lC (lR rfl) lN)))
        · exact aU (kR rfl) aM
      ·
        have hset:=name_any _ asB_ok
        have k1:(!(asB.toList == (⟨#[]⟩:ByteArray).toList))=true:=by decide +kernel
        have k2:(asB.toList == (⟨#[45]⟩:ByteArray).toList)=false:=by decide +kernel
        refine Wq (qW 73 111 rfl (qF rfl ty150 rfl (qL rfl ty3 rfl (qY rfl (w1) fok168 rfl (qO rfl (qM rfl (qU rfl rfl rfl (Fa rfl rfl ty150 rfl (by decide)) (qU rfl rfl rfl (Ld rfl rfl rfl rfl ty9 rfl) (qU rfl rfl rfl (C0 (fr:=[]) rfl rfl (hna) fok170 (.cons rfl (.pure rfl) .nil) rfl) (qU rfl rfl rfl (Nt rfl rfl) (qP rfl rfl rfl (qM rfl (qU rfl rfl rfl (Fa rfl rfl ty150 rfl (by decide)) (qU rfl rfl rfl (Ld rfl rfl rfl rfl ty9 rfl) (qU rfl rfl rfl (LO.neq_str rfl rfl rfl) (qU rfl rfl rfl (Mv rfl rfl) (qU rfl ‹_› rfl (Fa rfl rfl ty150 rfl (by decide)) (qU rfl ‹_› rfl (Ld rfl rfl rfl rfl ty9 rfl) (qU rfl ‹_› rfl (C0 (fr:=[]) rfl rfl (hset) fok170 (.cons rfl (.pure rfl) .nil) rfl) (qU rfl ‹_› rfl (Nt rfl rfl) (qU rfl rfl rfl (Pt rfl rfl ‹_› rfl) (qP rfl rfl rfl (qM rfl (qU rfl rfl rfl (Fa rfl rfl ty150 rfl (by decide)) (qU rfl rfl rfl (Ld rfl rfl rfl rfl ty9 rfl) (qU rfl rfl rfl (LO.eql_str rfl rfl rfl) (qP rfl rfl rfl (qM rfl (qU rfl ‹_› rfl (Fa rfl rfl ty150 rfl (by decide)) (qU rfl ‹_› rfl (Ld rfl rfl rfl rfl ty3 rfl) (qU rfl ‹_› rfl (C0 (fr:=[]) rfl rfl (w2) fok168 (.cons rfl (.pure rfl) (.cons rfl (.pure rfl) (.cons rfl (.pure rfl) .nil))) rfl) (qU rfl ‹_› rfl (Nt rfl rfl) (qP rfl ‹_› rfl (qM rfl (qU rfl rfl rfl (Fa rfl rfl ty150 rfl (by decide)) (qU rfl rfl rfl (Ld rfl rfl rfl rfl ty3 rfl) (qU rfl rfl rfl (C0 (fr:=[]) rfl rfl (w3) fok168 (.cons rfl (.pure rfl) (.cons rfl (.pure rfl) (.cons rfl (.pure rfl) .nil))) rfl) (qU rfl rfl rfl (Nt rfl rfl) (qP rfl rfl rfl (Nl (Wo rfl rfl (Wu ?_))))))))))))))))))))))))))))))))))))))))))
        intro yJ KJ hJ
        refine W.renameJ [(0,67)] 1 (by decide) ?_ ?_ (hJ (()) (show True from trivial))
        · exact lC (lI rfl) (lC (lR rfl) (lC (lR rfl) (lC (lR rfl) lN)))
        · exact aU (kR rfl) aM
    refine Wq (qW 120 124 rfl (qF rfl ty150 rfl (qL rfl ty148 rfl (qH rfl ty148 (qM rfl (Nl ?_))))))
    generalize m.ports=ps at *
    refine Wb (W.rename [] 0 (T':=up (up (up (up (up (up mt 45 (some (.isl (memsC A) A.length))) 46 (some (.base (.int .i64 (A.length:Int))))) 47 (some (.base (.int .i64 (i:Int))))) 90 (some (.isl (prtsC ps) ps.length))) 91 (some (.base (.int .i64 (ps.length:Int))))) 92 (some (.base (.int .i64 (0:Int))))) (H':=mt) (by decide) ?_ ?_ ?_)
    · exact aU (lR rfl) (aU (lR rfl) (aU (lR rfl) (aU (lR rfl) (aU (lR rfl) (aU (lR rfl) aM)))))
    · exact aM
    refine W.loop_ind (α:=Nat) (fun x=>ps.length - x) 0 (fun x=>up (up (up (up (up (up mt 45 (some (.isl (memsC A) A.length))) 46 (some (.base (.int .i64 (A.length:Int))))) 47 (some (.base (.int .i64 (i:Int))))) 90 (some (.isl (prtsC ps) ps.length))) 91 (some (.base (.int .i64 (ps.length:Int))))) 92 (some (.base (.int .i64 (x:Int))))) (fun x=>mt) (fun x=>x≤ps.length) 0 (show 0≤ps.length from Nat.zero_le _) ?_
    rintro j hIB ihB
    try (dsimp only at hIB)
    try dsimp only
    by_cases hc2:j < ps.length
    · have g2:decide ((j:Int) < (ps.length:Int))=true:=decide_eq_true (by omega)
      have hodd:=odd_any _ (hps _ (List.getElem_mem hc2))
      refine Wq (qW 128 129 rfl (qK rfl (Nl (Wq (Wt rfl ‹_› (Wu (Wq (Wb (Wq (qW 133 137 rfl (qJ rfl rfl ty148 ty157 (by omega) (Od rfl rfl (Lg rfl rfl ty157 rfl (prts_tk hc2)) (qB rfl ty157 (qS rfl ty157 (Sl rfl) rfl (Nl ?_)))))))))))))))
      generalize ps[j]=p at *
      refine Wq (qW 141 143 rfl (qG rfl ty157 rfl (Tl rfl) (qY rfl (hodd) fok171 rfl (Nl (Wo rfl rfl (Wu (qW 152 154 rfl (qZ rfl (iW _ (by omega)) (qM rfl (Nl (WL.rename [] 0 (by decide) ?_ ?_ (ihB (j + 1) (show ps.length - (j + 1) < ps.length - j from by omega) (show (j + 1)≤ps.length from by omega)))))))))))))
      · exact aU (lR rfl) (aU (lR rfl) (aU (lR rfl) (aU (lR rfl) (aU (lR rfl) (aU (lR rfl) aM)))))
      · exact aM
    · have g2:decide ((j:Int) < (ps.length:Int))=false:=decide_eq_false (by omega)
      refine Wq (qW 128 129 rfl (qK rfl (Nl (Wq (Wo rfl ‹_› (Wx ?_))))))
      clear ihB
      refine qW 158 160 rfl (qZ rfl (iW _ (by omega)) (qM rfl (Nl (WL.rename [] 0 (by decide) ?_ ?_ (ihA (i + 1) (show A.length - (i + 1) < A.length - i from by omega) (show (i + 1)≤A.length from by omega))))))
      · exact aU (lR rfl) (aU (lR rfl) (aU (lR rfl) aM))
      · exact aM
  · have g1:decide ((i:Int) < (A.length:Int))=false:=decide_eq_false (by omega)
    refine Wq (qW 60 61 rfl (qK rfl (Nl (Wq (Wo rfl ‹_› (Wx (Wq (qW 164 165 rfl (qA rfl (Nl (Wz ⟨.inl rfl,_,mt,Rc (Rt rfl) (Rv),aM,?_⟩)))))))))))
    exact ⟨rfl,rfl⟩
end Go.Proofs.YtlcndmciognneaaGreatDoor
namespace Go.Proofs.YtlcndmciognneaaGreatDoor
open Go.RowKit
theorem u64_four (n:Fin 15):validA (fourA (n.val:Int)).v6 (fourA (n.val:Int)).hi (fourA (n.val:Int)).lo=true∧U64 (fourA (n.val:Int)).hi∧U64 (fourA (n.val:Int)).lo:=by
  have:=n.2
  unfold validA fourA U64
  simp
  omega
theorem u64_six (n:Fin 15):validA (sixA (n.val:Int)).v6 (sixA (n.val:Int)).hi (sixA (n.val:Int)).lo=true∧U64 (sixA (n.val:Int)).hi∧U64 (sixA (n.val:Int)).lo:=by
  have:=n.2
  unfold validA sixA U64
  simp
  omega
theorem LO.eql_ad_b {o:Oper} {E:Operand→Option AV} {H:Hp} {f:Nat} {ty:TypeId} {x y:Operand} {r:Bool} (a b:Ad) (h:eqA a b=r) (ho:o.op=.binOp .eql 54 x y ty) (hx:E x=some (.agg (adC a))) (hy:E y=some (.agg (adC b))):LO Tryz.prog o E H f [] [] (.base (.bool r)) H:=h ▸ LO.eql_ad a b ho hx hy
set_option maxHeartbeats 2000000 in
theorem outside_any (d:Db) (hd:DbOk d):AFn Tryz.prog 133 0 [.agg (dbC d)] mt (.base (.bool false)) mt:=by
  refine AFn.eq Tryz.func133 rfl rfl (Nat.le_of_ble_eq_true rfl) ?_
  have h4:=hd.ns
  have h32:=hd.nm
  have hmem:=hd.mem
  have e4:=hd.l4
  have e6:=hd.l6
  have hall:=all_any d (by omega) (by omega)
  obtain ⟨A,hA⟩:∃ A,A=d.servers++d.members:=⟨_,rfl⟩
  rw [← hA] at hall hmem
  have hAl:A.length≤2000:=by rw [hA,List.length_append];omega
  clear hd hA
  obtain ⟨l4,l6,sv,mb⟩:=d
  dsimp only at e4 e6
  subst e4 e6
  have hlast:=last_any lan4 24 rfl (by decide) (by unfold U64;decide) (by unfold U64;decide) (by decide)
  refine Wq (qW 0 2 rfl (qC rfl (qA rfl (Nl (Wq (Wq (qW 6 10 rfl (qG rfl ty105 rfl (Tl rfl) (qY rfl (hall) fok135 rfl (qH rfl ty103 (qM rfl (Nl (Wb (W.rename [(0,0)] 1 (T':=up (up (up (up mt 1 (some (.own 0 0))) 8 (some (.isl (memsC A) A.length))) 9 (some (.base (.int .i64 (A.length:Int))))) 10 (some (.base (.int .i64 (0:Int))))) (H':=up mt 0 (some (dbC ⟨lan4,lan6,sv,mb⟩))) (by decide) ?_ ?_ ?_))))))))))))))
  · exact aU (lR rfl) (aU (lR rfl) (aU (lR rfl) (aU (lI rfl) aM)))
  · exact aU (kR rfl) aM
  refine W.loop_ind (α:=Nat) (fun x=>A.length - x) 1 (fun x=>up (up (up (up mt 1 (some (.own 0 0))) 8 (some (.isl (memsC A) A.length))) 9 (some (.base (.int .i64 (A.length:Int))))) 10 (some (.base (.int .i64 (x:Int))))) (fun x=>up mt 0 (some (dbC ⟨lan4,lan6,sv,mb⟩))) (fun x=>x≤A.length) 0 (show 0≤A.length from Nat.zero_le _) ?_
  rintro i hIA ihA
  try (dsimp only at hIA)
  try dsimp only
  by_cases hc:i < A.length
  · have g1:decide ((i:Int) < (A.length:Int))=true:=decide_eq_true (by omega)
    have hm:=hmem _ (List.getElem_mem hc)
    refine Wq (qW 14 15 rfl (qK rfl (Nl (Wq (Wt rfl ‹_› (Wu (Wq (Wb (Wq (qW 19 23 rfl (qJ rfl rfl ty103 ty150 (by omega) (Od rfl rfl (Lg rfl rfl ty150 rfl (mems_tk hc)) (qB rfl ty150 (qS rfl ty150 (Sl rfl) rfl (Nl ?_)))))))))))))))
    generalize A[i]=m at *
    have hnp:=hm.np
    have hps:=hm.ports
    refine Wq (qW 27 31 rfl (qF rfl ty150 rfl (qL rfl ty148 rfl (qH rfl ty148 (qM rfl (Nl ?_))))))
    generalize m.ports=ps at *
    refine Wb (W.rename [(0,0)] 1 (T':=up (up (up (up (up (up (up mt 1 (some (.own 0 0))) 8 (some (.isl (memsC A) A.length))) 9 (some (.base (.int .i64 (A.length:Int))))) 10 (some (.base (.int .i64 (i:Int))))) 15 (some (.isl (prtsC ps) ps.length))) 16 (some (.base (.int .i64 (ps.length:Int))))) 17 (some (.base (.int .i64 (0:Int))))) (H':=up mt 0 (some (dbC ⟨lan4,lan6,sv,mb⟩))) (by decide) ?_ ?_ ?_)
    · exact aU (lR rfl) (aU (lR rfl) (aU (lR rfl) (aU (lR rfl) (aU (lR rfl) (aU (lR rfl) (aU (lI rfl) aM))))))
    · exact aU (kR rfl) aM
    refine W.loop_ind (α:=Nat) (fun x=>ps.length - x) 1 (fun x=>up (up (up (up (up (up (up mt 1 (some (.own 0 0))) 8 (some (.isl (memsC A) A.length))) 9 (some (.base (.int .i64 (A.length:Int))))) 10 (some (.base (.int .i64 (i:Int))))) 15 (some (.isl (prtsC ps) ps.length))) 16 (some (.base (.int .i64 (ps.length:Int))))) 17 (some (.base (.int .i64 (x:Int))))) (fun x=>up mt 0 (some (dbC ⟨lan4,lan6,sv,mb⟩))) (fun x=>x≤ps.length) 0 (show 0≤ps.length from Nat.zero_le _) ?_
    rintro j hIB ihB
    try (dsimp only at hIB)
    try dsimp only
    by_cases hc2:j < ps.length
    · have g2:decide ((j:Int) < (ps.length:Int))=true:=decide_eq_true (by omega)
      have hp:=hps _ (List.getElem_mem hc2)
      refine Wq (qW 35 36 rfl (qK rfl (Nl (Wq (Wt rfl ‹_› (Wu (Wq (Wb (Wq (qW 40 44 rfl (qJ rfl rfl ty148 ty157 (by omega) (Od rfl rfl (Lg rfl rfl ty157 rfl (prts_tk hc2)) (qB rfl ty157 (qS rfl ty157 (Sl rfl) rfl (Nl ?_)))))))))))))))
      generalize ps[j]=p at *
      have z4:=zero_any p.v4
      have z6:=zero_any p.v6
      obtain ⟨id,sw,sp,macs,v4,v6⟩:=p
      have a4:=hp.a4
      have a6:=hp.a6
      clear hp
      dsimp only at a4 a6 z4 z6
      refine Wq (W.joinK (α:=Unit) 2 (fun x=>[(1,.own 0 0),(6,.own 1 0)]) (fun x=>up (up mt 0 (some (dbC ⟨lan4,lan6,sv,mb⟩))) 1 (some (prtC ⟨id,sw,sp,macs,v4,v6⟩))) (fun x=>True) (.cons (t:=8) rfl (by exact .inl rfl) (.cons (t:=9) rfl (by exact .inl rfl) (.cons (t:=10) rfl (by exact .inl rfl) (.cons (t:=15) rfl (by exact .inl rfl) (.cons (t:=16) rfl (by exact .inl rfl) (.cons (t:=17) rfl (by exact .inl rfl) .nil)))))) ?_ ?_)
      rotate_left
      rintro q hIJ
      try (dsimp only at hIJ)
      try dsimp only [joinT,baseT,List.cons_append,List.nil_append]
      rotate_right
      ·
        rcases a4 with e|⟨n,e⟩
        ·
          subst e
          rw [show zeroA ⟨false,0,0⟩=true from rfl] at z4
          refine Wq (Wd 48 76 (by decide) rfl mixed rfl (qF rfl ty157 rfl (qG rfl ty54 rfl (Tl rfl) (qY rfl (z4) fok172 rfl (qO rfl (qM rfl (qD rfl rfl rfl (qD rfl rfl rfl (qD rfl rfl rfl (qD rfl rfl rfl (qD rfl rfl rfl (qD rfl rfl rfl (qD rfl rfl rfl (Ud rfl rfl rfl rfl (Ud rfl rfl rfl rfl (Ud rfl rfl rfl rfl (Ud rfl rfl rfl rfl (Ud rfl rfl rfl rfl (Ud rfl rfl rfl rfl (qD rfl rfl rfl (qD rfl rfl rfl (Ud rfl rfl rfl rfl (Ud rfl rfl rfl rfl (Ud rfl rfl rfl rfl (Ud rfl rfl rfl rfl (Ud rfl rfl rfl rfl (Ud rfl rfl rfl rfl (qD rfl rfl rfl (qP rfl rfl rfl (Nl ⟨by kernel_rfl,(Wo rfl rfl (Wu ?_))⟩))))))))))))))))))))))))))))))
          intro yJ KJ hJ
          refine W.renameJ [(0,0),(1,42)] 2 (by decide) ?_ ?_ (hJ (()) (show True from trivial))
          · exact lC (lI rfl) (lC (lI rfl) (lC (lR rfl) (lC (lR rfl) (lC (lR rfl) (lC (lR rfl) (lC (lR rfl) (lC (lR rfl) lN)))))))
          · exact aU (kR rfl) (aU (kR rfl) aM)
        ·
          subst e
          obtain ⟨u1,u2,u3⟩:=u64_four n
          have hct:=containsX_any lan4 (fourA (n.val:Int)) 24 rfl u1 u2 u3 (by show (24:Int)≤32;decide)
          rw [(four_in n).1] at hct
          have hz:zeroA (fourA (n.val:Int))=false:=by have:=n.2;unfold zeroA eqA fourA;simp;omega
          rw [hz] at z4
          clear hz u1
          refine Wq (Wd 48 76 (by decide) rfl mixed rfl (qF rfl ty157 rfl (qG rfl ty54 rfl (Tl rfl) (qY rfl (z4) fok172 rfl (qO rfl (qM rfl (qU rfl rfl rfl (Fa rfl rfl ty105 rfl (by decide)) (qU rfl rfl rfl (La rfl rfl rfl ty56 rfl (Tl rfl)) (qU rfl rfl rfl (Fa rfl rfl ty157 rfl (by decide)) (qU rfl rfl rfl (La rfl rfl rfl ty54 rfl (Tl rfl)) (qU rfl rfl rfl (C0 (fr:=[]) rfl rfl (hct) fok40 (.cons rfl (.pure rfl) (.cons rfl (.pure rfl) .nil)) rfl) (qU rfl rfl rfl (Nt rfl rfl) (qU rfl rfl rfl (Mv rfl rfl) (qU rfl rfl rfl (Fa rfl rfl ty157 rfl (by decide)) (qU rfl rfl rfl (La rfl rfl rfl ty54 rfl (Tl rfl)) (qU rfl rfl rfl (Fa rfl rfl ty105 rfl (by decide)) (qU rfl rfl rfl (Fa rfl rfl ty56 rfl (by decide)) (qU rfl rfl rfl (La rfl rfl rfl ty54 rfl (Tl rfl)) (qU rfl rfl rfl (LO.eql_ad_b (fourA (n.val:Int)) lan4.ad (four_in n).2.1 rfl rfl rfl) (qU rfl rfl rfl (Pf0 rfl rfl rfl rfl) (qU rfl rfl rfl (Mv rfl rfl) (qU rfl rfl rfl (Fa rfl rfl ty157 rfl (by decide)) (qU rfl rfl rfl (La rfl rfl rfl ty54 rfl (Tl rfl)) (qU rfl rfl rfl (Fa rfl rfl ty105 rfl (by decide)) (qU rfl rfl rfl (La rfl rfl rfl ty56 rfl (Tl rfl)) (qU rfl rfl rfl (C0 (fr:=[]) rfl rfl (hlast) fok173 (.cons rfl (.pure rfl) .nil) rfl) (qU rfl rfl rfl (LO.eql_ad_b (fourA (n.val:Int)) (mkAd .or lan4.ad 24) (four_in n).2.2 rfl rfl rfl) (qU rfl rfl rfl (Pf0 rfl rfl rfl rfl) (qT rfl rfl rfl (Nl ⟨by kernel_rfl,(Wo rfl rfl (Wu ?_))⟩))))))))))))))))))))))))))))))
          intro yJ KJ hJ
          refine W.renameJ [(0,0),(1,42)] 2 (by decide) ?_ ?_ (hJ (()) (show True from trivial))
          · exact lC (lI rfl) (lC (lI rfl) (lC (lR rfl) (lC (lR rfl) (lC (lR rfl) (lC (lR rfl) (lC (lR rfl) (lC (lR rfl) lN)))))))
          · exact aU (kR rfl) (aU (kR rfl) aM)
      rcases a6 with e|⟨n,e⟩
      ·
        subst e
        rw [show zeroA ⟨false,0,0⟩=true from rfl] at z6
        refine Wq (qW 85 105 rfl (qF rfl ty157 rfl (qG rfl ty54 rfl (Tl rfl) (qY rfl (z6) fok172 rfl (qO rfl (qM rfl (qD rfl rfl rfl (qD rfl rfl rfl (qD rfl rfl rfl (qD rfl rfl rfl (qD rfl rfl rfl (qD rfl rfl rfl (qD rfl rfl rfl (Ud rfl rfl rfl rfl (Ud rfl rfl rfl rfl (Ud rfl rfl rfl rfl (Ud rfl rfl rfl rfl (Ud rfl rfl rfl rfl (Ud rfl rfl rfl rfl (qD rfl rfl rfl (qP rfl rfl rfl (Nl (Wo rfl rfl (Wu (qW 114 116 rfl (qZ rfl (iW _ (by omega)) (qM rfl (Nl (WL.rename [(0,0)] 1 (by decide) ?_ ?_ (ihB (j + 1) (show ps.length - (j + 1) < ps.length - j from by omega) (show (j + 1)≤ps.length from by omega)))))))))))))))))))))))))))))))
        · exact aU (lR rfl) (aU (lR rfl) (aU (lR rfl) (aU (lR rfl) (aU (lR rfl) (aU (lR rfl) (aU (lI rfl) aM))))))
        · exact aU (kR rfl) aM
      ·
        subst e
        obtain ⟨u1,u2,u3⟩:=u64_six n
        have hct:=containsX_any lan6 (sixA (n.val:Int)) 64 rfl u1 u2 u3 (by show (64:Int)≤128;decide)
        rw [(six_in n).1] at hct
        have hz:zeroA (sixA (n.val:Int))=false:=rfl
        rw [hz] at z6
        clear hz u1
        refine Wq (qW 85 105 rfl (qF rfl ty157 rfl (qG rfl ty54 rfl (Tl rfl) (qY rfl (z6) fok172 rfl (qO rfl (qM rfl (qU rfl rfl rfl (Fa rfl rfl ty105 rfl (by decide)) (qU rfl rfl rfl (La rfl rfl rfl ty56 rfl (Tl rfl)) (qU rfl rfl rfl (Fa rfl rfl ty157 rfl (by decide)) (qU rfl rfl rfl (La rfl rfl rfl ty54 rfl (Tl rfl)) (qU rfl rfl rfl (C0 (fr:=[]) rfl rfl (hct) fok40 (.cons rfl (.pure rfl) (.cons rfl (.pure rfl) .nil)) rfl) (qU rfl rfl rfl (Nt rfl rfl) (qU rfl rfl rfl (Mv rfl rfl) (qU rfl rfl rfl (Fa rfl rfl ty157 rfl (by decide)) (qU rfl rfl rfl (La rfl rfl rfl ty54 rfl (Tl rfl)) (qU rfl rfl rfl (Fa rfl rfl ty105 rfl (by decide)) (qU rfl rfl rfl (Fa rfl rfl ty56 rfl (by decide)) (qU rfl rfl rfl (La rfl rfl rfl ty54 rfl (Tl rfl)) (qU rfl rfl rfl (LO.eql_ad_b (sixA (n.val:Int)) lan6.ad (six_in n).2 rfl rfl rfl) (qU rfl rfl rfl (Pf0 rfl rfl rfl rfl) (qT rfl rfl rfl (Nl (Wo rfl rfl (Wu (qW 114 116 rfl (qZ rfl (iW _ (by omega)) (qM rfl (Nl (WL.rename [(0,0)] 1 (by decide) ?_ ?_ (ihB (j + 1) (show ps.length - (j + 1) < ps.length - j from by omega) (show (j + 1)≤ps.length from by omega)))))))))))))))))))))))))))))))
        · exact aU (lR rfl) (aU (lR rfl) (aU (lR rfl) (aU (lR rfl) (aU (lR rfl) (aU (lR rfl) (aU (lI rfl) aM))))))
        · exact aU (kR rfl) aM
    · have g2:decide ((j:Int) < (ps.length:Int))=false:=decide_eq_false (by omega)
      refine Wq (qW 35 36 rfl (qK rfl (Nl (Wq (Wo rfl ‹_› (Wx ?_))))))
      clear ihB
      refine qW 120 122 rfl (qZ rfl (iW _ (by omega)) (qM rfl (Nl (WL.rename [(0,0)] 1 (by decide) ?_ ?_ (ihA (i + 1) (show A.length - (i + 1) < A.length - i from by omega) (show (i + 1)≤A.length from by omega))))))
      · exact aU (lR rfl) (aU (lR rfl) (aU (lR rfl) (aU (lI rfl) aM)))
      · exact aU (kR rfl) aM
  · have g1:decide ((i:Int) < (A.length:Int))=false:=decide_eq_false (by omega)
    refine Wq (qW 14 15 rfl (qK rfl (Nl (Wq (Wo rfl ‹_› (Wx (Wq (qW 126 127 rfl (qA rfl (Nl (Wz ⟨.inl rfl,_,mt,Rc (Rt rfl) (Rv),aM,?_⟩)))))))))))
    exact ⟨rfl,rfl⟩
theorem dbck_any (d:Db) (hd:DbOk d) (ho:Once d):AFn Tryz.prog 91 0 [.agg (dbC d)] mt (.base (.int .i64 0)) mt:=by
  refine AFn.eq Tryz.func91 rfl rfl (Nat.le_of_ble_eq_true rfl) ?_
  have c1:=many_any d hd
  have c2:=wrong_any d hd
  have c3:=outside_any d hd
  have c4:=twice_any d ho
  refine Wq (qW 0 2 rfl (qC rfl (qA rfl (Nl (Wq (Wb (Wq (qW 6 9 rfl (qG rfl ty105 rfl (Tl rfl) (qY rfl (c1) fok131 rfl (qA rfl (Nl (Wo rfl rfl (Wq (qW 18 21 rfl (qG rfl ty105 rfl (Tl rfl) (qY rfl (c2) fok132 rfl (qA rfl (Nl (Wo rfl rfl (Wq (qW 30 33 rfl (qG rfl ty105 rfl (Tl rfl) (qY rfl (c3) fok133 rfl (qA rfl (Nl (Wo rfl rfl (Wq (qW 42 45 rfl (qG rfl ty105 rfl (Tl rfl) (qY rfl (c4) fok134 rfl (qA rfl (Nl (Wo rfl rfl (Wu (Wq (qW 54 55 rfl (qA rfl (Nl (Wz ⟨.inl rfl,_,mt,Rc (Rt rfl) (Rv),aM,?_⟩))))))))))))))))))))))))))))))))))))))))
  exact ⟨rfl,rfl⟩
end Go.Proofs.YtlcndmciognneaaGreatDoor
