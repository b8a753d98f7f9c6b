/-
  Names, stations, ports that are right by themselves.
-/
import Derived.Test.YtlcndmciognneaaGreatDoorJb
import Derived.Test.YtlcndmciognneaaGreatDoorJc
import Derived.Test.YtlcndmciognneaaGreatDoorMab
namespace Go.Proofs.YtlcndmciognneaaGreatDoor
open Go.RowKit
def okC (c:Int):Prop:=(97≤c∧c≤122)∨(65≤c∧c≤90)∨(48≤c∧c≤57)∨c=45∨c=58
structure NameOk (s:ByteArray):Prop where
  lo:1≤s.size
  hi:s.size≤32
  ch:∀ (i:Nat) b,s[i]?=some b→okC (b.toNat:Int)
theorem name_any (s:ByteArray) (hs:NameOk s):AFn Tryz.prog 170 0 [.base (.string s)] mt (.base (.bool true)) mt:=by
  refine AFn.eq Tryz.func170 rfl rfl (Nat.le_of_ble_eq_true rfl) ?_
  obtain ⟨hlo,hhi,hch⟩:=hs
  refine Wq (qW 0 1 rfl (qA rfl (Nl (Wq (Wq (qW 5 8 rfl (qM rfl (Od rfl rfl (LO.len_str rfl rfl ty9) (qM rfl (Nl (Wb (W.rename [] 0 (T':=up (up (up mt 0 (some (.base (.string s)))) 6 (some (.base (.int .i64 (s.size:Int))))) 7 (some (.base (.int .i64 (0:Int))))) (H':=mt) (by decide) ?_ ?_ ?_))))))))))))
  · exact aU (lR rfl) (aU (lR rfl) (aU (lR rfl) aM))
  · exact aM
  refine W.loop_ind (α:=Nat) (fun x=>s.size - x) 0 (fun x=>up (up (up mt 0 (some (.base (.string s)))) 6 (some (.base (.int .i64 (s.size:Int))))) 7 (some (.base (.int .i64 (x:Int))))) (fun x=>mt) (fun x=>x≤s.size) 0 (show 0≤s.size from Nat.zero_le _) ?_
  rintro i hIA ihA
  try (dsimp only at hIA)
  try dsimp only
  by_cases hc:i < s.size
  · have g1:decide ((i:Int) < (s.size:Int))=true:=decide_eq_true (by omega)
    obtain ⟨b,hb⟩:∃ b,s[i]?=some b:=⟨s[i],getElem?_pos s i hc⟩
    have hok:=hch i b hb
    refine Wq (qW 12 13 rfl (qK rfl (Nl (Wq (Wt rfl ‹_› (Wu (Wq (Wb (Wq (qW 17 19 rfl (qM rfl (qA rfl (Nl (Wq (qW 23 27 rfl (qM rfl (qM rfl (Od rfl rfl (LO.indexStr rfl rfl rfl rfl ty9 hb) (qA rfl (Nl ?_))))))))))))))))))))
    generalize (b.toNat:Int)=c at *
    unfold okC at hok
    rcases hok with hok|hok|hok|hok|hok
    · have k0:decide (c ≥ 97)=true:=decide_eq_true (by omega)
      have k1:decide (c≤122)=true:=decide_eq_true (by omega)
      refine Wq (qW 31 62 rfl (qM rfl (Od rfl rfl (Ge0 rfl rfl rfl) (qM rfl (qU rfl ‹_› rfl (Mv rfl rfl) (qU rfl ‹_› rfl (Le0 rfl rfl rfl) (qT rfl ‹_› rfl (qM rfl (qD rfl ‹_› rfl (qD rfl ‹_› rfl (qD rfl ‹_› rfl (Ud rfl rfl rfl rfl (Ud rfl rfl rfl rfl (qD rfl ‹_› rfl (qT rfl ‹_› rfl (qM rfl (qD rfl rfl rfl (qD rfl rfl rfl (qD rfl rfl rfl (Ud rfl rfl rfl rfl (Ud rfl rfl rfl rfl (qD rfl rfl rfl (qT rfl rfl rfl (qM rfl (qD rfl rfl rfl (qD rfl rfl rfl (qT rfl rfl rfl (qM rfl (qD rfl rfl rfl (qD rfl rfl rfl (qT rfl rfl rfl (qO rfl (Nl (Wo rfl rfl (Wu (qW 71 73 rfl (qZ rfl (iW _ (by omega)) (qM rfl (Nl (WL.rename [] 0 (by decide) ?_ ?_ (ihA (i + 1) (show s.size - (i + 1) < s.size - i from by omega) (show (i + 1)≤s.size from by omega))))))))))))))))))))))))))))))))))))))))))
      · exact aU (lR rfl) (aU (lR rfl) (aU (lR rfl) aM))
      · exact aM
    · have k0:decide (c ≥ 97)=false:=decide_eq_false (by omega)
      have k1:decide (c ≥ 65)=true:=decide_eq_true (by omega)
      have k2:decide (c≤90)=true:=decide_eq_true (by omega)
      refine Wq (qW 31 62 rfl (qM rfl (Od rfl rfl (Ge0 rfl rfl rfl) (qM rfl (qD rfl ‹_› rfl (qD rfl ‹_› rfl (qP rfl ‹_› rfl (qM rfl (qU rfl rfl rfl (Mv rfl rfl) (qU rfl rfl rfl (Ge0 rfl rfl rfl) (qU rfl rfl rfl (Mv rfl rfl) (qU rfl ‹_› rfl (Mv rfl rfl) (qU rfl ‹_› rfl (Le0 rfl rfl rfl) (qU rfl rfl rfl (Pt rfl rfl ‹_› rfl) (qP rfl rfl rfl (qM rfl (qD rfl ‹_› rfl (qD rfl ‹_› rfl (qD rfl ‹_› rfl (Ud rfl rfl rfl rfl (Ud rfl rfl rfl rfl (qD rfl ‹_› rfl (qT rfl ‹_› rfl (qM rfl (qD rfl rfl rfl (qD rfl rfl rfl (qT rfl rfl rfl (qM rfl (qD rfl rfl rfl (qD rfl rfl rfl (qT rfl rfl rfl (qO rfl (Nl (Wo rfl rfl (Wu (qW 71 73 rfl (qZ rfl (iW _ (by omega)) (qM rfl (Nl (WL.rename [] 0 (by decide) ?_ ?_ (ihA (i + 1) (show s.size - (i + 1) < s.size - i from by omega) (show (i + 1)≤s.size from by omega))))))))))))))))))))))))))))))))))))))))))
      · exact aU (lR rfl) (aU (lR rfl) (aU (lR rfl) aM))
      · exact aM
    · have k0:decide (c ≥ 97)=false:=decide_eq_false (by omega)
      have k1:decide (c ≥ 65)=false:=decide_eq_false (by omega)
      have k2:decide (c ≥ 48)=true:=decide_eq_true (by omega)
      have k3:decide (c≤57)=true:=decide_eq_true (by omega)
      refine Wq (qW 31 62 rfl (qM rfl (Od rfl rfl (Ge0 rfl rfl rfl) (qM rfl (qD rfl ‹_› rfl (qD rfl ‹_› rfl (qP rfl ‹_› rfl (qM rfl (qU rfl rfl rfl (Mv rfl rfl) (qU rfl rfl rfl (Ge0 rfl rfl rfl) (qU rfl rfl rfl (Mv rfl rfl) (qD rfl ‹_› rfl (qD rfl ‹_› rfl (qU rfl rfl rfl (Pf0 rfl rfl ‹_› rfl) (qP rfl rfl rfl (qM rfl (qU rfl rfl rfl (Mv rfl rfl) (qU rfl rfl rfl (Ge0 rfl rfl rfl) (qU rfl rfl rfl (Mv rfl rfl) (qU rfl ‹_› rfl (Mv rfl rfl) (qU rfl ‹_› rfl (Le0 rfl rfl rfl) (qU rfl rfl rfl (Pt rfl rfl ‹_› rfl) (qP rfl rfl rfl (qM rfl (qD rfl ‹_› rfl (qD rfl ‹_› rfl (qT rfl ‹_› rfl (qM rfl (qD rfl rfl rfl (qD rfl rfl rfl (qT rfl rfl rfl (qO rfl (Nl (Wo rfl rfl (Wu (qW 71 73 rfl (qZ rfl (iW _ (by omega)) (qM rfl (Nl (WL.rename [] 0 (by decide) ?_ ?_ (ihA (i + 1) (show s.size - (i + 1) < s.size - i from by omega) (show (i + 1)≤s.size from by omega))))))))))))))))))))))))))))))))))))))))))
      · exact aU (lR rfl) (aU (lR rfl) (aU (lR rfl) aM))
      · exact aM
    · have k0:decide (c ≥ 97)=false:=decide_eq_false (by omega)
      have k1:decide (c ≥ 65)=false:=decide_eq_false (by omega)
      have k2:decide (c ≥ 48)=false:=decide_eq_false (by omega)
      have k3:(c == 45)=true:=by simp;omega
      refine Wq (qW 31 62 rfl (qM rfl (Od rfl rfl (Ge0 rfl rfl rfl) (qM rfl (qD rfl ‹_› rfl (qD rfl ‹_› rfl (qP rfl ‹_› rfl (qM rfl (qU rfl rfl rfl (Mv rfl rfl) (qU rfl rfl rfl (Ge0 rfl rfl rfl) (qU rfl rfl rfl (Mv rfl rfl) (qD rfl ‹_› rfl (qD rfl ‹_› rfl (qU rfl rfl rfl (Pf0 rfl rfl ‹_› rfl) (qP rfl rfl rfl (qM rfl (qU rfl rfl rfl (Mv rfl rfl) (qU rfl rfl rfl (Ge0 rfl rfl rfl) (qU rfl rfl rfl (Mv rfl rfl) (qD rfl ‹_› rfl (qD rfl ‹_› rfl (qU rfl rfl rfl (Pf0 rfl rfl ‹_› rfl) (qP rfl rfl rfl (qM rfl (qU rfl rfl rfl (Mv rfl rfl) (qU rfl rfl rfl (Eq0 rfl rfl rfl) (qP rfl rfl rfl (qM rfl (qD rfl ‹_› rfl (qD rfl ‹_› rfl (qT rfl ‹_› rfl (qO rfl (Nl (Wo rfl rfl (Wu (qW 71 73 rfl (qZ rfl (iW _ (by omega)) (qM rfl (Nl (WL.rename [] 0 (by decide) ?_ ?_ (ihA (i + 1) (show s.size - (i + 1) < s.size - i from by omega) (show (i + 1)≤s.size from by omega))))))))))))))))))))))))))))))))))))))))))
      · exact aU (lR rfl) (aU (lR rfl) (aU (lR rfl) aM))
      · exact aM
    · have k0:decide (c ≥ 97)=false:=decide_eq_false (by omega)
      have k1:decide (c ≥ 65)=false:=decide_eq_false (by omega)
      have k2:decide (c ≥ 48)=true:=decide_eq_true (by omega)
      have k3:decide (c≤57)=false:=decide_eq_false (by omega)
      have k4:(c == 45)=false:=by simp;omega
      have k5:(c == 58)=true:=by simp;omega
      have k6:(!(c == 58))=false:=by rw [k5];rfl
      refine Wq (qW 31 62 rfl (qM rfl (Od rfl rfl (Ge0 rfl rfl rfl) (qM rfl (qD rfl ‹_› rfl (qD rfl ‹_› rfl (qP rfl ‹_› rfl (qM rfl (qU rfl rfl rfl (Mv rfl rfl) (qU rfl rfl rfl (Ge0 rfl rfl rfl) (qU rfl rfl rfl (Mv rfl rfl) (qD rfl ‹_› rfl (qD rfl ‹_› rfl (qU rfl rfl rfl (Pf0 rfl rfl ‹_› rfl) (qP rfl rfl rfl (qM rfl (qU rfl rfl rfl (Mv rfl rfl) (qU rfl rfl rfl (Ge0 rfl rfl rfl) (qU rfl rfl rfl (Mv rfl rfl) (qU rfl ‹_› rfl (Mv rfl rfl) (qU rfl ‹_› rfl (Le0 rfl rfl rfl) (qU rfl rfl rfl (Pt rfl rfl ‹_› rfl) (qP rfl rfl rfl (qM rfl (qU rfl ‹_› rfl (Mv rfl rfl) (qU rfl ‹_› rfl (Eq0 rfl rfl rfl) (qP rfl ‹_› rfl (qM rfl (qU rfl ‹_› rfl (Mv rfl rfl) (qU rfl ‹_› rfl (Eq0 rfl rfl rfl) (qP rfl ‹_› rfl (qO rfl (Nl (Wo rfl ‹_› (Wu (qW 71 73 rfl (qZ rfl (iW _ (by omega)) (qM rfl (Nl (WL.rename [] 0 (by decide) ?_ ?_ (ihA (i + 1) (show s.size - (i + 1) < s.size - i from by omega) (show (i + 1)≤s.size from by omega))))))))))))))))))))))))))))))))))))))))))
      · exact aU (lR rfl) (aU (lR rfl) (aU (lR rfl) aM))
      · exact aM
  · have g1:decide ((i:Int) < (s.size:Int))=false:=decide_eq_false (by omega)
    have k1:decide ((s.size:Int) ≥ 1)=true:=decide_eq_true (by omega)
    have k2:decide ((s.size:Int)≤32)=true:=decide_eq_true (by omega)
    refine Wq (qW 12 13 rfl (qK rfl (Nl (Wq (Wo rfl ‹_› (Wx (Wq (qW 77 86 rfl (qM rfl (Od rfl rfl (LO.len_str rfl rfl ty9) (Od rfl rfl (Ge0 rfl rfl rfl) (qM rfl (qU rfl ‹_› rfl (Mv rfl rfl) (qU rfl ‹_› rfl (LO.len_str rfl rfl ty9) (qU rfl ‹_› rfl (Le0 rfl rfl rfl) (qT rfl ‹_› rfl (qA rfl (Nl (Wz ⟨.inl rfl,_,mt,Rc (Rt rfl) (Rv),aM,?_⟩)))))))))))))))))))
    exact ⟨by rw [k2];rfl,rfl⟩
def grpM (m:List Int):Bool:=gB m 0 % 2 == 1
theorem grpM_any (m:List Int) (hl:m.length=6) (hB:IsB m):AFn Tryz.prog 23 0 [.agg (bytesC m)] mt (.base (.bool (grpM m))) mt:=by
  refine AFn.eq Tryz.func23 rfl rfl (Nat.le_of_ble_eq_true rfl) ?_
  have b0:=hB.at 0
  refine Wq (qW 0 2 rfl (qC rfl (qA rfl (Nl (Wq (qW 6 11 rfl (Od rfl rfl (Ir rfl rfl rfl rfl ty23 ty5 (by decide)) (Od rfl rfl (Ld rfl rfl rfl (by_at0 (by rw [hl];decide)) ty5 rfl) (Od rfl rfl (LO.rem rfl rfl rfl (by omega)) (qE rfl (qA rfl (Nl (Wz ⟨.inl rfl,_,mt,Rc (Rt rfl) (Rv),aM,?_⟩)))))))))))))
  exact ⟨by unfold grpM;rw [← Int.tmod_eq_emod_of_nonneg b0.1];rfl,rfl⟩
/-- a port as the databases have them -/
structure PrtOk (p:Prt):Prop where
  id:1≤p.id∧p.id≤999
  sw:0≤p.sw∧p.sw≤7
  speed:1≤p.speed∧p.speed≤400
  nm:1≤p.macs.length∧p.macs.length≤2
  macs:∀ m,m∈p.macs→m.length=6∧IsB m∧grpM m=false∧m≠[0,0,0,0,0,0]
  a4:p.v4=⟨false,0,0⟩∨∃ n:Fin 15,p.v4=fourA (n.val:Int)
  a6:p.v6=⟨false,0,0⟩∨∃ n:Fin 15,p.v6=sixA (n.val:Int)
  aa:p.v4=⟨false,0,0⟩→p.v6≠⟨false,0,0⟩
theorem LO.eql_mac {o:Oper} {E:Operand→Option AV} {H:Hp} {f:Nat} {ty:TypeId} {x y:Operand} (a b:List Int) (ha:a.length=6) (hb:b.length=6) (ho:o.op=.binOp .eql 23 x y ty) (hx:E x=some (.agg (bytesC a))) (hy:E y=some (.agg (bytesC b))):LO Tryz.prog o E H f [] [] (.base (.bool (decide (a=b)))) H :=
  LO.eq_bases false (a.map (Value.int .u8)) (b.map (Value.int .u8)) ho hx hy (bytesC_bases a) (bytesC_bases b) (guard_run x y false (by kernel_rfl)) (eqMac_in 9998 ha hb)
theorem PrtOk.cases4 {p:Prt} (h:PrtOk p):validA p.v4.v6 p.v4.hi p.v4.lo=true∧p.v4.v6=false∧U64 p.v4.hi∧U64 p.v4.lo:=by
  have hz:=h.a4
  rcases hz with e|⟨n,e⟩<;>rw [e]
  · exact ⟨rfl,rfl,by unfold U64;decide,by unfold U64;decide⟩
  · have:=n.2
    refine ⟨?_,rfl,by unfold fourA U64;simp,by unfold fourA U64;dsimp only;omega⟩
    unfold validA fourA
    simp
    omega
set_option maxHeartbeats 1000000 in
theorem odd_any (p:Prt) (hp:PrtOk p):AFn Tryz.prog 171 0 [.agg (prtC p)] mt (.base (.bool false)) mt:=by
  refine AFn.eq Tryz.func171 rfl rfl (Nat.le_of_ble_eq_true rfl) ?_
  have hnm:=hp.nm
  have hmacs:=hp.macs
  have w1:=within_yes hp.id.1 hp.id.2
  have w2:=within_yes hp.sw.1 hp.sw.2
  have w3:=within_yes hp.speed.1 hp.speed.2
  have hv:=rvalid_any p.v4
  obtain ⟨c1,c2,_,_⟩:=hp.cases4
  rw [c1] at hv
  have z4:=zero_any p.v4
  have z6:=zero_any p.v6
  have hs:(zeroA p.v4=true∧zeroA p.v6=false∧p.v6.v6=true)∨(zeroA p.v4=false∧zeroA p.v6=true)∨(zeroA p.v4=false∧zeroA p.v6=false∧p.v6.v6=true):=by
    have f6:∀ n:Fin 15,zeroA (sixA (n.val:Int))=false∧(sixA (n.val:Int)).v6=true:=by decide
    have f4:∀ n:Fin 15,zeroA (fourA (n.val:Int))=false:=by decide
    rcases hp.a4 with e|⟨n,e⟩
    · rcases hp.a6 with e6|⟨m,e6⟩
      · exact absurd e6 (hp.aa e)
      · rw [e,e6];exact .inl ⟨rfl,f6 m⟩
    · rcases hp.a6 with e6|⟨m,e6⟩
      · rw [e,e6];exact .inr (.inl ⟨f4 n,rfl⟩)
      · rw [e,e6];exact .inr (.inr ⟨f4 n,f6 m⟩)
  refine Wq (qW 0 2 rfl (qC rfl (qA rfl (Nl (Wq (Wq (qW 6 10 rfl (qF rfl ty157 rfl (qL rfl ty36 rfl (qH rfl ty36 (qM rfl (Nl (Wb (W.rename [(0,0)] 1 (T':=up (up (up (up mt 1 (some (.own 0 0))) 6 (some (.isl (macsC p.macs) p.macs.length))) 7 (some (.base (.int .i64 (p.macs.length:Int))))) 8 (some (.base (.int .i64 (0:Int))))) (H':=up mt 0 (some (prtC p))) (by decide) ?_ ?_ ?_))))))))))))))
  · exact aU (lR rfl) (aU (lR rfl) (aU (lR rfl) (aU (lI rfl) aM)))
  · exact aU (kR rfl) aM
  refine W.loop_ind (α:=Nat) (fun x=>p.macs.length - x) 1 (fun x=>up (up (up (up mt 1 (some (.own 0 0))) 6 (some (.isl (macsC p.macs) p.macs.length))) 7 (some (.base (.int .i64 (p.macs.length:Int))))) 8 (some (.base (.int .i64 (x:Int))))) (fun x=>up mt 0 (some (prtC p))) (fun x=>x≤p.macs.length) 0 (show 0≤p.macs.length from Nat.zero_le _) ?_
  rintro i hIA ihA
  try (dsimp only at hIA)
  try dsimp only
  by_cases hc:i < p.macs.length
  · have g1:decide ((i:Int) < (p.macs.length:Int))=true:=decide_eq_true (by omega)
    obtain ⟨m1,m2,m3,m4⟩:=hmacs _ (List.getElem_mem hc)
    have htk:=macs_tk (fun m hm=>(hmacs m hm).1) hc
    have hgr:=grpM_any p.macs[i] m1 m2
    rw [m3] at hgr
    have k1:decide (p.macs[i]=[0,0,0,0,0,0])=false:=decide_eq_false m4
    refine Wq (qW 14 15 rfl (qK rfl (Nl (Wq (Wt rfl ‹_› (Wu (Wq (Wb (Wq (qW 19 23 rfl (qJ rfl rfl ty36 ty23 (by omega) (Od rfl rfl (Lg rfl rfl ty23 rfl htk) (qB rfl ty23 (On rfl rfl (Sr rfl rfl rfl rfl rfl ty23 ((bytesC_len _).trans m1) (by decide) (sp_all ((bytesC_len _).trans m1))) (Nl ?_)))))))))))))))
    generalize p.macs[i]=mc at *
    refine Wq (qW 27 34 rfl (qG rfl ty23 rfl (bytes_tk m1) (Od rfl rfl (C0 (fr:=[]) rfl rfl (hgr) fok23 (.cons rfl (.pure (bytesC_pure _)) .nil) rfl) (qM rfl (qU rfl rfl rfl (La rfl rfl rfl ty23 rfl (bytes_tk m1)) (qU rfl rfl rfl (LO.build_ar rfl ty23 ty5 .nil) (qU rfl rfl rfl (LO.eql_mac mc [0,0,0,0,0,0] m1 rfl rfl rfl rfl) (qP rfl rfl rfl (Nl (Wo rfl ‹_› (Wu (qW 43 45 rfl (qZ rfl (iW _ (by omega)) (qM rfl (Nl (WL.rename [(0,0)] 1 (by decide) ?_ ?_ (ihA (i + 1) (show p.macs.length - (i + 1) < p.macs.length - i from by omega) (show (i + 1)≤p.macs.length from by omega))))))))))))))))))
    · exact aU (lR rfl) (aU (lR rfl) (aU (lR rfl) (aU (lI rfl) aM)))
    · exact aU (kR rfl) aM
  · have g1:decide ((i:Int) < (p.macs.length:Int))=false:=decide_eq_false (by omega)
    refine Wq (qW 14 15 rfl (qK rfl (Nl (Wq (Wo rfl ‹_› (Wx ?_))))))
    clear ihA
    rcases hs with ⟨s1,s2,s3⟩|⟨s1,s2⟩|⟨s1,s2,s3⟩
    all_goals
      rw [s1] at z4
      rw [s2] at z6
    ·
      have s4:(!p.v6.v6)=false:=by rw [s3];rfl
      refine Wq (qW 49 99 rfl (qF rfl ty157 rfl (qL rfl ty3 rfl (qY rfl (w1) fok168 rfl (qO rfl (qM rfl (qU rfl rfl rfl (Fa rfl rfl ty157 rfl (by decide)) (qU rfl rfl rfl (Ld rfl rfl rfl rfl ty3 rfl) (qU rfl rfl rfl (C0 (fr:=[]) rfl rfl (w2) fok168 (.cons rfl (.pure rfl) (.cons rfl (.pure rfl) (.cons rfl (.pure rfl) .nil))) rfl) (qU rfl rfl rfl (Nt rfl rfl) (qP rfl rfl rfl (qM rfl (qU rfl rfl rfl (Fa rfl rfl ty157 rfl (by decide)) (qU rfl rfl rfl (Ld rfl rfl rfl rfl ty3 rfl) (qU rfl rfl rfl (C0 (fr:=[]) rfl rfl (w3) fok168 (.cons rfl (.pure rfl) (.cons rfl (.pure rfl) (.cons rfl (.pure rfl) .nil))) rfl) (qU rfl rfl rfl (Nt rfl rfl) (qP rfl rfl rfl (qM rfl (qU rfl rfl rfl (Fa rfl rfl ty157 rfl (by decide)) (qU rfl rfl rfl (Fa rfl rfl ty54 rfl (by decide)) (qU rfl rfl rfl (Ld rfl rfl rfl rfl ty4 rfl) (qP rfl rfl rfl (qM rfl (qU rfl ‹_› rfl (Fa rfl rfl ty157 rfl (by decide)) (qU rfl ‹_› rfl (La rfl rfl rfl ty54 rfl (Tl rfl)) (qU rfl ‹_› rfl (C0 (fr:=[]) rfl rfl (hv) fok125 (.cons rfl (.pure rfl) .nil) rfl) (qU rfl ‹_› rfl (Nt rfl rfl) (qP rfl ‹_› rfl (qM rfl (qU rfl rfl rfl (Fa rfl rfl ty157 rfl (by decide)) (qU rfl rfl rfl (La rfl rfl rfl ty54 rfl (Tl rfl)) (qU rfl rfl rfl (C0 (fr:=[]) rfl rfl (z6) fok172 (.cons rfl (.pure rfl) .nil) rfl) (qU rfl rfl rfl (Nt rfl rfl) (qU rfl rfl rfl (Mv rfl rfl) (qU rfl rfl rfl (Fa rfl rfl ty157 rfl (by decide)) (qU rfl rfl rfl (Fa rfl rfl ty54 rfl (by decide)) (qU rfl rfl rfl (Ld rfl rfl rfl rfl ty4 rfl) (qU rfl rfl rfl (Nt rfl rfl) (qU rfl rfl rfl (Pt rfl rfl rfl rfl) (qP rfl rfl rfl (qM rfl (qU rfl ‹_› rfl (Fa rfl rfl ty157 rfl (by decide)) (qU rfl ‹_› rfl (La rfl rfl rfl ty54 rfl (Tl rfl)) (qU rfl ‹_› rfl (C0 (fr:=[]) rfl rfl (z4) fok172 (.cons rfl (.pure rfl) .nil) rfl) (qU rfl ‹_› rfl (Mv rfl rfl) (qU rfl rfl rfl (Fa rfl rfl ty157 rfl (by decide)) (qU rfl rfl rfl (La rfl rfl rfl ty54 rfl (Tl rfl)) (qU rfl rfl rfl (C0 (fr:=[]) rfl rfl (z6) fok172 (.cons rfl (.pure rfl) .nil) rfl) (qU rfl ‹_› rfl (Pt rfl rfl rfl rfl) (qP rfl ‹_› rfl (qA rfl (Nl (Wz ⟨.inl rfl,_,mt,Rc (Rt rfl) (Rv),aM,?_⟩)))))))))))))))))))))))))))))))))))))))))))))))))))))
      exact ⟨rfl,rfl⟩
    ·
      refine Wq (qW 49 99 rfl (qF rfl ty157 rfl (qL rfl ty3 rfl (qY rfl (w1) fok168 rfl (qO rfl (qM rfl (qU rfl rfl rfl (Fa rfl rfl ty157 rfl (by decide)) (qU rfl rfl rfl (Ld rfl rfl rfl rfl ty3 rfl) (qU rfl rfl rfl (C0 (fr:=[]) rfl rfl (w2) fok168 (.cons rfl (.pure rfl) (.cons rfl (.pure rfl) (.cons rfl (.pure rfl) .nil))) rfl) (qU rfl rfl rfl (Nt rfl rfl) (qP rfl rfl rfl (qM rfl (qU rfl rfl rfl (Fa rfl rfl ty157 rfl (by decide)) (qU rfl rfl rfl (Ld rfl rfl rfl rfl ty3 rfl) (qU rfl rfl rfl (C0 (fr:=[]) rfl rfl (w3) fok168 (.cons rfl (.pure rfl) (.cons rfl (.pure rfl) (.cons rfl (.pure rfl) .nil))) rfl) (qU rfl rfl rfl (Nt rfl rfl) (qP rfl rfl rfl (qM rfl (qU rfl rfl rfl (Fa rfl rfl ty157 rfl (by decide)) (qU rfl rfl rfl (Fa rfl rfl ty54 rfl (by decide)) (qU rfl rfl rfl (Ld rfl rfl rfl rfl ty4 rfl) (qP rfl rfl rfl (qM rfl (qU rfl ‹_› rfl (Fa rfl rfl ty157 rfl (by decide)) (qU rfl ‹_› rfl (La rfl rfl rfl ty54 rfl (Tl rfl)) (qU rfl ‹_› rfl (C0 (fr:=[]) rfl rfl (hv) fok125 (.cons rfl (.pure rfl) .nil) rfl) (qU rfl ‹_› rfl (Nt rfl rfl) (qP rfl ‹_› rfl (qM rfl (qU rfl rfl rfl (Fa rfl rfl ty157 rfl (by decide)) (qU rfl rfl rfl (La rfl rfl rfl ty54 rfl (Tl rfl)) (qU rfl rfl rfl (C0 (fr:=[]) rfl rfl (z6) fok172 (.cons rfl (.pure rfl) .nil) rfl) (qU rfl rfl rfl (Nt rfl rfl) (qU rfl rfl rfl (Mv rfl rfl) (qD rfl rfl rfl (qD rfl rfl rfl (qD rfl rfl rfl (qD rfl rfl rfl (qU rfl rfl rfl (Pf0 rfl rfl rfl rfl) (qP rfl rfl rfl (qM rfl (qU rfl rfl rfl (Fa rfl rfl ty157 rfl (by decide)) (qU rfl rfl rfl (La rfl rfl rfl ty54 rfl (Tl rfl)) (qU rfl rfl rfl (C0 (fr:=[]) rfl rfl (z4) fok172 (.cons rfl (.pure rfl) .nil) rfl) (qU rfl rfl rfl (Mv rfl rfl) (qD rfl rfl rfl (qD rfl rfl rfl (qD rfl rfl rfl (qU rfl rfl rfl (Pf0 rfl rfl rfl rfl) (qP rfl rfl rfl (qA rfl (Nl (Wz ⟨.inl rfl,_,mt,Rc (Rt rfl) (Rv),aM,?_⟩)))))))))))))))))))))))))))))))))))))))))))))))))))))
      exact ⟨rfl,rfl⟩
    ·
      have s4:(!p.v6.v6)=false:=by rw [s3];rfl
      refine Wq (qW 49 99 rfl (qF rfl ty157 rfl (qL rfl ty3 rfl (qY rfl (w1) fok168 rfl (qO rfl (qM rfl (qU rfl rfl rfl (Fa rfl rfl ty157 rfl (by decide)) (qU rfl rfl rfl (Ld rfl rfl rfl rfl ty3 rfl) (qU rfl rfl rfl (C0 (fr:=[]) rfl rfl (w2) fok168 (.cons rfl (.pure rfl) (.cons rfl (.pure rfl) (.cons rfl (.pure rfl) .nil))) rfl) (qU rfl rfl rfl (Nt rfl rfl) (qP rfl rfl rfl (qM rfl (qU rfl rfl rfl (Fa rfl rfl ty157 rfl (by decide)) (qU rfl rfl rfl (Ld rfl rfl rfl rfl ty3 rfl) (qU rfl rfl rfl (C0 (fr:=[]) rfl rfl (w3) fok168 (.cons rfl (.pure rfl) (.cons rfl (.pure rfl) (.cons rfl (.pure rfl) .nil))) rfl) (qU rfl rfl rfl (Nt rfl rfl) (qP rfl rfl rfl (qM rfl (qU rfl rfl rfl (Fa rfl rfl ty157 rfl (by decide)) (qU rfl rfl rfl (Fa rfl rfl ty54 rfl (by decide)) (qU rfl rfl rfl (Ld rfl rfl rfl rfl ty4 rfl) (qP rfl rfl rfl (qM rfl (qU rfl ‹_› rfl (Fa rfl rfl ty157 rfl (by decide)) (qU rfl ‹_› rfl (La rfl rfl rfl ty54 rfl (Tl rfl)) (qU rfl ‹_› rfl (C0 (fr:=[]) rfl rfl (hv) fok125 (.cons rfl (.pure rfl) .nil) rfl) (qU rfl ‹_› rfl (Nt rfl rfl) (qP rfl ‹_› rfl (qM rfl (qU rfl rfl rfl (Fa rfl rfl ty157 rfl (by decide)) (qU rfl rfl rfl (La rfl rfl rfl ty54 rfl (Tl rfl)) (qU rfl rfl rfl (C0 (fr:=[]) rfl rfl (z6) fok172 (.cons rfl (.pure rfl) .nil) rfl) (qU rfl rfl rfl (Nt rfl rfl) (qU rfl rfl rfl (Mv rfl rfl) (qU rfl rfl rfl (Fa rfl rfl ty157 rfl (by decide)) (qU rfl rfl rfl (Fa rfl rfl ty54 rfl (by decide)) (qU rfl rfl rfl (Ld rfl rfl rfl rfl ty4 rfl) (qU rfl rfl rfl (Nt rfl rfl) (qU rfl rfl rfl (Pt rfl rfl rfl rfl) (qP rfl rfl rfl (qM rfl (qU rfl ‹_› rfl (Fa rfl rfl ty157 rfl (by decide)) (qU rfl ‹_› rfl (La rfl rfl rfl ty54 rfl (Tl rfl)) (qU rfl ‹_› rfl (C0 (fr:=[]) rfl rfl (z4) fok172 (.cons rfl (.pure rfl) .nil) rfl) (qU rfl ‹_› rfl (Mv rfl rfl) (qD rfl rfl rfl (qD rfl rfl rfl (qD rfl rfl rfl (qU rfl ‹_› rfl (Pf0 rfl rfl rfl rfl) (qP rfl ‹_› rfl (qA rfl (Nl (Wz ⟨.inl rfl,_,mt,Rc (Rt rfl) (Rv),aM,?_⟩)))))))))))))))))))))))))))))))))))))))))))))))))))))
      exact ⟨rfl,rfl⟩
end Go.Proofs.YtlcndmciognneaaGreatDoor
