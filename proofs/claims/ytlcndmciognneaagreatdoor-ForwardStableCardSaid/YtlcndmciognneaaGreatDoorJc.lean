/-
  Nothing occurs twice in a database: the document's test says so.
-/
import Derived.Test.YtlcndmciognneaaGreatDoorJb
import Derived.Test.YtlcndmciognneaaGreatDoorMab
namespace Go.Proofs.YtlcndmciognneaaGreatDoor
open Go.RowKit
def asnV (m:Mem):Value:=.int .i64 m.asn
def nameV (m:Mem):Value:=.string m.name
def idV (p:Prt):Value:=.int .i64 p.id
def adsP (p:Prt):List Ad:=(if zeroA p.v4=true then [] else [p.v4])++(if zeroA p.v6=true then [] else [p.v6])
def adsV (l:List Prt):List Value:=(l.flatMap adsP).map adV
def macsV (l:List Prt):List Value:=(l.flatMap (·.macs)).map macV
def allP (d:Db):List Prt:=(d.servers++d.members).flatMap (·.ports)
structure PrtIn (p:Prt):Prop where
  id:-9223372036854775808≤p.id∧p.id≤9223372036854775807
  nm:p.macs.length≤1000
  macs:∀ m,m∈p.macs→m.length=6∧∀ x,x∈m→0≤x∧x≤255
  h4:0≤p.v4.hi∧p.v4.hi≤18446744073709551615
  l4:0≤p.v4.lo∧p.v4.lo≤18446744073709551615
  h6:0≤p.v6.hi∧p.v6.hi≤18446744073709551615
  l6:0≤p.v6.lo∧p.v6.lo≤18446744073709551615
structure Once (d:Db):Prop where
  sl:d.servers.length≤1000
  ml:d.members.length≤1000
  asn:∀ m,m∈d.servers++d.members→-9223372036854775808≤m.asn∧m.asn≤9223372036854775807
  name:∀ m,m∈d.servers++d.members→m.name.size≤maxLen
  np:∀ m,m∈d.servers++d.members→m.ports.length≤1000
  prt:∀ p,p∈allP d→PrtIn p
  same:∀ m,m∈d.servers→∀ h:0 < d.servers.length,m.asn=d.servers[0].asn
  asnM:∀ m,m∈d.members→∀ s,s∈d.servers→m.asn≠s.asn
  asnN:(d.members.map (·.asn)).Nodup
  names:((d.servers++d.members).map (·.name)).Nodup
  ids:((allP d).map (·.id)).Nodup
  macs:((allP d).flatMap (·.macs)).Nodup
  ads:((allP d).flatMap adsP).Nodup
theorem kd_i64w {P:Program} {t:TypeId} (hq:P.underlying t=some (.int .i64)) {i:Int} (h:-9223372036854775808≤i∧i≤9223372036854775807):kdOf P t (.int .i64 i):=kd_int hq (by
  unfold Lit.wf
  simp only [IntKind.min,IntKind.max,IntKind.signed,IntKind.bits,Bool.and_eq_true,decide_eq_true_eq]
  constructor
  · have:-(2 ^ (64 - 1):Int)≤i:=by omega
    simpa using this
  · have:i≤(2 ^ (64 - 1):Int) - 1:=by omega
    simpa using this)
theorem take_snoc {α β:Type} (g:α→β) {l:List α} {i:Nat} (h:i < l.length):(l.take (i + 1)).map g=(l.take i).map g++[g l[i]]:=by
  rw [List.take_add_one,List.map_append]
  simp [h]
theorem sp_all {cs ns:List AV} (h:ns.length=cs.length):Sp cs 0 ns ns:=⟨by omega,h,fun j c hj=>.inl ⟨Nat.zero_le _,by simpa using hj⟩⟩
theorem split_ports {A:List Mem} {i j:Nat} (hi:i < A.length) (hj:j < A[i].ports.length):∃ rest,A.flatMap (·.ports)=((A.take i).flatMap (·.ports)++A[i].ports.take j)++A[i].ports[j]::rest:=by
  have h1:A=A.take i++A[i]::A.drop (i + 1):=by rw [← List.drop_eq_getElem_cons hi,List.take_append_drop]
  have h2:A[i].ports=A[i].ports.take j++A[i].ports[j]::A[i].ports.drop (j + 1):=by rw [← List.drop_eq_getElem_cons hj,List.take_append_drop]
  refine ⟨A[i].ports.drop (j + 1)++(A.drop (i + 1)).flatMap (·.ports),?_⟩
  have h3:A.flatMap (·.ports)=(A.take i).flatMap (·.ports)++(A[i].ports++(A.drop (i + 1)).flatMap (·.ports)):=by
    conv=>lhs;rw [h1]
    rw [List.flatMap_append,List.flatMap_cons]
  have h4:∀ R:List Prt,A[i].ports++R=(A[i].ports.take j++A[i].ports[j]::A[i].ports.drop (j + 1))++R:=fun R=>by rw [← h2]
  rw [h3,h4]
  simp only [List.append_assoc,List.cons_append]
theorem nodup_mid {α:Type} {X Y:List α} {a:α} (h:(X++a::Y).Nodup):a ∉ X:=fun ha=>by
  rw [List.nodup_append] at h
  exact h.2.2 a ha a (by simp) rfl
theorem nodup_part {α:Type} {X Y Z:List α} (h:(X++(Y++Z)).Nodup):∀ a,a∈Y→a ∉ X:=fun a ha hx=>by
  rw [List.nodup_append] at h
  exact h.2.2 a hx a (List.mem_append_left _ ha) rfl
theorem adV_inj {a b:Ad} (h:adV a=adV b):a=b:=by
  unfold adV at h
  simp at h
  cases a;cases b
  simp_all
theorem macV_inj {a b:List Int} (h:macV a=macV b):a=b:=by
  unfold macV at h
  simp at h
  have:∀ (l m:List Int),l.map (fun x=>Value.int .u8 x)=m.map (fun x=>Value.int .u8 x)→l=m:=by
    intro l
    induction l with
    | nil=>intro m h;cases m with
      | nil=>rfl
      | cons y m=>simp at h
    | cons x l ih=>intro m h;cases m with
      | nil=>simp at h
      | cons y m=>simp at h;rw [h.1,ih m (by simpa using h.2)]
  exact this a b h
theorem not_map {α β:Type} {g:α→β} (hg:∀ x y,g x=g y→x=y) {l:List α} {a:α} (h:a ∉ l):g a ∉ l.map g:=fun hm=>by
  obtain ⟨b,hb,e⟩:=List.mem_map.1 hm
  exact h (hg _ _ e ▸ hb)
theorem zero_not (l:List Prt) {a:Ad} (hz:zeroA a=true):a ∉ l.flatMap adsP:=fun h=>by
  obtain ⟨p,_,hp⟩:=List.mem_flatMap.1 h
  unfold adsP at hp
  rcases List.mem_append.1 hp with hp|hp
  · split at hp
    · simp at hp
    · rename_i hn;simp at hp;exact hn (hp ▸ hz)
  · split at hp
    · simp at hp
    · rename_i hn;simp at hp;exact hn (hp ▸ hz)
theorem mac_not {X rest:List Prt} {p:Prt} (h:((X++p::rest).flatMap (·.macs)).Nodup) {k:Nat} (hk:k < p.macs.length):macV p.macs[k] ∉ macsV X++(p.macs.take k).map macV:=by
  have h2:p.macs=p.macs.take k++p.macs[k]::p.macs.drop (k + 1):=by rw [← List.drop_eq_getElem_cons hk,List.take_append_drop]
  rw [List.flatMap_append,List.flatMap_cons] at h
  have h3:((X.flatMap (·.macs)++p.macs.take k)++p.macs[k]::(p.macs.drop (k + 1)++rest.flatMap (·.macs))).Nodup:=by
    have h4:∀ R:List (List Int),p.macs++R=(p.macs.take k++p.macs[k]::p.macs.drop (k + 1))++R:=fun R=>by rw [← h2]
    rw [h4] at h
    simp only [List.append_assoc,List.cons_append] at h ⊢
    exact h
  unfold macsV
  rw [← List.map_append]
  exact not_map (fun _ _=>macV_inj) (nodup_mid h3)
theorem ad_not {X rest:List Prt} {p:Prt} (h:((X++p::rest).flatMap adsP).Nodup):adV p.v4 ∉ adsV X∧adV p.v6 ∉ adsV X:=by
  rw [List.flatMap_append,List.flatMap_cons] at h
  have key:∀ a:Ad,(zeroA a=true∨a∈adsP p)→adV a ∉ adsV X:=fun a ha=>by
    unfold adsV
    refine not_map (fun _ _=>adV_inj) ?_
    rcases ha with ha|ha
    · exact zero_not X ha
    · exact nodup_part h a ha
  constructor
  · refine key _ ?_
    cases hz:zeroA p.v4 with
    | true=>exact .inl rfl
    | false=>exact .inr (by unfold adsP;rw [hz];simp)
  · refine key _ ?_
    cases hz:zeroA p.v6 with
    | true=>exact .inl rfl
    | false=>exact .inr (by unfold adsP;rw [hz];simp)
theorem take_not {α:Type} {l:List α} (h:l.Nodup) {i:Nat} (hi:i < l.length):l[i] ∉ l.take i:=by
  have h1:l=l.take i++l[i]::l.drop (i + 1):=by rw [← List.drop_eq_getElem_cons hi,List.take_append_drop]
  rw [h1] at h
  exact nodup_mid h
set_option maxRecDepth 20000 in
set_option maxHeartbeats 2000000 in
theorem twice_any (d:Db) (hd:Once d):AFn Tryz.prog 134 0 [.agg (dbC d)] mt (.base (.bool false)) mt:=by
  refine AFn.eq Tryz.func134 rfl rfl (Nat.le_of_ble_eq_true rfl) ?_
  have hik:Tryz.prog.underlying 3=some (.int .i64):=lay_int ty3
  have hmi:MKey Tryz.prog 3 (kdOf Tryz.prog 3):=mk_int hik
  have hsl:=hd.sl
  have hml:=hd.ml
  have hall:=all_any d hd.sl hd.ml
  obtain ⟨A,hA⟩:∃ A,A=d.servers++d.members:=⟨_,rfl⟩
  rw [← hA] at hall
  have hAl:A.length≤2000:=by rw [hA,List.length_append];omega
  have hnA:=hd.name
  have hpA:=hd.np
  rw [← hA] at hnA hpA
  have hnames:=hd.names
  have hids:=hd.ids
  have hmacs:=hd.macs
  have hads:=hd.ads
  have hprt:=hd.prt
  unfold allP at hids hmacs hads hprt
  rw [← hA] at hnames hids hmacs hads hprt
  have hsk:Tryz.prog.underlying 9=some .string:=lay_str ty9
  have hms:MKey Tryz.prog 9 (kdOf Tryz.prog 9):=mk_str hsk
  refine Wq (qW 0 2 rfl (qC rfl (qA rfl (Nl (Wq (qW 6 16 rfl (Od rfl rfl (LO.makeMap (kdOf Tryz.prog 3) rfl) (Od rfl rfl (LO.makeMap (kdOf Tryz.prog 9) rfl) (Od rfl rfl (LO.makeMap (kdOf Tryz.prog 3) rfl) (Od rfl rfl (LO.makeMap (kdOf Tryz.prog 23) rfl) (Od rfl rfl (LO.makeMap (kdOf Tryz.prog 54) rfl) (qA rfl (qA rfl (qA rfl (qA rfl (qA rfl (Nl ?_)))))))))))))))))
  rw [← setV_nil]
  refine Wq (Wq (qW 20 24 rfl (qF rfl ty105 rfl (qL rfl ty103 rfl (qH rfl ty103 (qM rfl (Nl (Wb (W.rename [(0,0),(1,6),(2,7),(3,8),(4,9),(5,10)] 6 (T':=up (up (up (up (up (up (up (up (up mt 1 (some (.own 0 0))) 3 (some (.mref 1))) 4 (some (.mref 2))) 5 (some (.mref 3))) 6 (some (.mref 4))) 7 (some (.mref 5))) 24 (some (.isl (memsC d.servers) d.servers.length))) 25 (some (.base (.int .i64 (d.servers.length:Int))))) 26 (some (.base (.int .i64 (0:Int))))) (H':=up (up (up (up (up (up mt 0 (some (dbC d))) 1 (some ([.mp (kdOf Tryz.prog 3) (setV ((d.servers.take 0).map asnV))]))) 2 (some ([.mp (kdOf Tryz.prog 9) (setV [])]))) 3 (some ([.mp (kdOf Tryz.prog 3) (setV [])]))) 4 (some ([.mp (kdOf Tryz.prog 23) (setV [])]))) 5 (some ([.mp (kdOf Tryz.prog 54) (setV [])]))) (by decide) ?_ ?_ ?_)))))))))
  · exact aU (lR rfl) (aU (lR rfl) (aU (lR rfl) (aU (lI rfl) (aU (lI rfl) (aU (lI rfl) (aU (lI rfl) (aU (lI rfl) (aU (lI rfl) aM))))))))
  · exact aU (kI rfl) (aU (kI rfl) (aU (kI rfl) (aU (kI rfl) (aU (kI rfl) (aU (kR rfl) aM)))))
  refine W.loop_ind (α:=Nat) (fun x=>d.servers.length - x) 6 (fun x=>up (up (up (up (up (up (up (up (up mt 1 (some (.own 0 0))) 3 (some (.mref 1))) 4 (some (.mref 2))) 5 (some (.mref 3))) 6 (some (.mref 4))) 7 (some (.mref 5))) 24 (some (.isl (memsC d.servers) d.servers.length))) 25 (some (.base (.int .i64 (d.servers.length:Int))))) 26 (some (.base (.int .i64 (x:Int))))) (fun x=>up (up (up (up (up (up mt 0 (some (dbC d))) 1 (some ([.mp (kdOf Tryz.prog 3) (setV ((d.servers.take x).map asnV))]))) 2 (some ([.mp (kdOf Tryz.prog 9) (setV [])]))) 3 (some ([.mp (kdOf Tryz.prog 3) (setV [])]))) 4 (some ([.mp (kdOf Tryz.prog 23) (setV [])]))) 5 (some ([.mp (kdOf Tryz.prog 54) (setV [])]))) (fun x=>x≤d.servers.length) 0 (show 0≤d.servers.length from Nat.zero_le _) ?_
  rintro i hIA ihA
  try (dsimp only at hIA)
  try dsimp only
  by_cases hc:i < d.servers.length
  · have g1:decide ((i:Int) < (d.servers.length:Int))=true:=decide_eq_true (by omega)
    have hpos:0 < d.servers.length:=by omega
    have hme:d.servers[i]∈d.servers:=List.getElem_mem hc
    have hsame:=hd.same _ hme hpos
    have hkd:=kd_i64w hik (hd.asn _ (List.mem_append_left _ hme))
    have k1:(d.servers[i].asn != d.servers[0].asn)=false:=by rw [hsame];simp
    have htk:=take_snoc asnV hc
    refine Wq (qW 28 29 rfl (qK rfl (Nl (Wq (Wt rfl ‹_› (Wu (Wq (Wb (Wq (qW 33 37 rfl (qJ rfl rfl ty103 ty150 (by omega) (Od rfl rfl (Lg rfl rfl ty150 rfl (mems_tk hc)) (qB rfl ty150 (qS rfl ty150 (Sl rfl) rfl (Nl (Wq (Wq (Wd 41 49 (by decide) rfl mixed rfl (qF rfl ty150 rfl (qL rfl ty3 rfl (qF rfl ty105 rfl (qL rfl ty103 rfl (qJ rfl rfl ty103 ty150 (by omega) (qI rfl ty150 rfl (Od rfl rfl (Li rfl rfl ((mems_tk hpos).2 0 _ rfl) ty3 rfl) (qN rfl (Nl ⟨by kernel_rfl,(Wo rfl ‹_› (Wu (qW 58 62 rfl (qM rfl (qF rfl ty150 rfl (qL rfl ty3 rfl (On rfl rfl (LO.mapUpdate rfl rfl rfl (KV.base _) rfl rfl ty208 hmi hkd (m':=setV ((d.servers.take (i + 1)).map asnV)) (by rw [htk];exact setV_at _ _) (by rw [htk];exact setV_else _ _)) (Nl (qW 66 68 rfl (qZ rfl (iW _ (by omega)) (qM rfl (Nl (WL.rename [(0,0),(1,1),(2,2),(3,3),(4,4),(5,5)] 6 (by decide) ?_ ?_ (ihA (i + 1) (show d.servers.length - (i + 1) < d.servers.length - i from by omega) (show (i + 1)≤d.servers.length from by omega)))))))))))))))⟩)))))))))))))))))))))))))))
    · exact aU (lR rfl) (aU (lR rfl) (aU (lR rfl) (aU (lI rfl) (aU (lI rfl) (aU (lI rfl) (aU (lI rfl) (aU (lI rfl) (aU (lI rfl) aM))))))))
    · exact aU (kI rfl) (aU (kI rfl) (aU (kI rfl) (aU (kI rfl) (aU (kI rfl) (aU (kR rfl) aM)))))
  · have g1:decide ((i:Int) < (d.servers.length:Int))=false:=decide_eq_false (by omega)
    refine Wq (qW 28 29 rfl (qK rfl (Nl (Wq (Wo rfl ‹_› (Wx ?_))))))
    clear ihA
    obtain rfl:i=d.servers.length:=by omega
    rw [List.take_length]
    refine Wq (Wq (qW 72 76 rfl (qF rfl ty105 rfl (qL rfl ty103 rfl (qH rfl ty103 (qM rfl (Nl ?_)))))))
    rw [show d.servers.map asnV=d.servers.map asnV++(d.members.take 0).map asnV from by simp]
    refine Wb (W.rename [(0,0),(1,1),(2,2),(3,3),(4,4),(5,5)] 6 (T':=up (up (up (up (up (up (up (up (up mt 1 (some (.own 0 0))) 3 (some (.mref 1))) 4 (some (.mref 2))) 5 (some (.mref 3))) 6 (some (.mref 4))) 7 (some (.mref 5))) 43 (some (.isl (memsC d.members) d.members.length))) 44 (some (.base (.int .i64 (d.members.length:Int))))) 45 (some (.base (.int .i64 (0:Int))))) (H':=up (up (up (up (up (up mt 0 (some (dbC d))) 1 (some ([.mp (kdOf Tryz.prog 3) (setV (d.servers.map asnV++(d.members.take 0).map asnV))]))) 2 (some ([.mp (kdOf Tryz.prog 9) (setV [])]))) 3 (some ([.mp (kdOf Tryz.prog 3) (setV [])]))) 4 (some ([.mp (kdOf Tryz.prog 23) (setV [])]))) 5 (some ([.mp (kdOf Tryz.prog 54) (setV [])]))) (by decide) ?_ ?_ ?_)
    · exact aU (lR rfl) (aU (lR rfl) (aU (lR rfl) (aU (lI rfl) (aU (lI rfl) (aU (lI rfl) (aU (lI rfl) (aU (lI rfl) (aU (lI rfl) aM))))))))
    · exact aU (kI rfl) (aU (kI rfl) (aU (kI rfl) (aU (kI rfl) (aU (kI rfl) (aU (kR rfl) aM)))))
    refine W.loop_ind (α:=Nat) (fun x=>d.members.length - x) 6 (fun x=>up (up (up (up (up (up (up (up (up mt 1 (some (.own 0 0))) 3 (some (.mref 1))) 4 (some (.mref 2))) 5 (some (.mref 3))) 6 (some (.mref 4))) 7 (some (.mref 5))) 43 (some (.isl (memsC d.members) d.members.length))) 44 (some (.base (.int .i64 (d.members.length:Int))))) 45 (some (.base (.int .i64 (x:Int))))) (fun x=>up (up (up (up (up (up mt 0 (some (dbC d))) 1 (some ([.mp (kdOf Tryz.prog 3) (setV (d.servers.map asnV++(d.members.take x).map asnV))]))) 2 (some ([.mp (kdOf Tryz.prog 9) (setV [])]))) 3 (some ([.mp (kdOf Tryz.prog 3) (setV [])]))) 4 (some ([.mp (kdOf Tryz.prog 23) (setV [])]))) 5 (some ([.mp (kdOf Tryz.prog 54) (setV [])]))) (fun x=>x≤d.members.length) 0 (show 0≤d.members.length from Nat.zero_le _) ?_
    rintro i hIB ihB
    try (dsimp only at hIB)
    try dsimp only
    by_cases hc2:i < d.members.length
    · have g2:decide ((i:Int) < (d.members.length:Int))=true:=decide_eq_true (by omega)
      have hme:d.members[i]∈d.members:=List.getElem_mem hc2
      have hkd:=kd_i64w hik (hd.asn _ (List.mem_append_right _ hme))
      have htk:=take_snoc asnV hc2
      have hout:Value.int .i64 d.members[i].asn ∉ d.servers.map asnV++(d.members.take i).map asnV:=fun h=>by
        rcases List.mem_append.1 h with h|h
        · obtain ⟨m,hm,e⟩:=List.mem_map.1 h
          unfold asnV at e
          injection e with _ e
          exact hd.asnM _ hme m hm e.symm
        · obtain ⟨m,hm,e⟩:=List.mem_map.1 h
          unfold asnV at e
          injection e with _ e
          have:=take_not hd.asnN (i:=i) (by simpa using hc2)
          rw [← List.map_take] at this
          exact this (by rw [List.getElem_map];exact List.mem_map.2 ⟨m,hm,e⟩)
      have hlk:=setV_out hout
      refine Wq (qW 80 81 rfl (qK rfl (Nl (Wq (Wt rfl ‹_› (Wu (Wq (Wb (Wq (qW 85 89 rfl (qJ rfl rfl ty103 ty150 (by omega) (Od rfl rfl (Lg rfl rfl ty150 rfl (mems_tk hc2)) (qB rfl ty150 (qS rfl ty150 (Sl rfl) rfl (Nl (Wq (Wq (qW 93 97 rfl (qM rfl (qF rfl ty150 rfl (qL rfl ty3 rfl (Od rfl rfl (LO.lookup rfl rfl rfl (KV.base _) rfl ty208 hmi hkd (zero_of (by kernel_rfl)) hlk) (Nl (Wo rfl rfl (Wu (qW 106 110 rfl (qM rfl (qF rfl ty150 rfl (qL rfl ty3 rfl (On rfl rfl (LO.mapUpdate rfl rfl rfl (KV.base _) rfl rfl ty208 hmi hkd (m':=setV (d.servers.map asnV++(d.members.take (i + 1)).map asnV)) (by rw [htk,← List.append_assoc];exact setV_at _ _) (by rw [htk,← List.append_assoc];exact setV_else _ _)) (Nl (qW 114 116 rfl (qZ rfl (iW _ (by omega)) (qM rfl (Nl (WL.rename [(0,0),(1,1),(2,2),(3,3),(4,4),(5,5)] 6 (by decide) ?_ ?_ (ihB (i + 1) (show d.members.length - (i + 1) < d.members.length - i from by omega) (show (i + 1)≤d.members.length from by omega))))))))))))))))))))))))))))))))))))))
      · exact aU (lR rfl) (aU (lR rfl) (aU (lR rfl) (aU (lI rfl) (aU (lI rfl) (aU (lI rfl) (aU (lI rfl) (aU (lI rfl) (aU (lI rfl) aM))))))))
      · exact aU (kI rfl) (aU (kI rfl) (aU (kI rfl) (aU (kI rfl) (aU (kI rfl) (aU (kR rfl) aM)))))
    · have g2:decide ((i:Int) < (d.members.length:Int))=false:=decide_eq_false (by omega)
      refine Wq (qW 80 81 rfl (qK rfl (Nl (Wq (Wo rfl ‹_› (Wx ?_))))))
      clear ihB
      refine Wq (Wq (qW 120 124 rfl (qG rfl ty105 rfl (Tl rfl) (qY rfl (hall) fok135 rfl (qH rfl ty103 (qM rfl (Nl (Wb (W.rename [(0,2),(1,3),(2,4),(3,5)] 4 (T':=up (up (up (up (up (up (up mt 4 (some (.mref 0))) 5 (some (.mref 1))) 6 (some (.mref 2))) 7 (some (.mref 3))) 58 (some (.isl (memsC A) A.length))) 59 (some (.base (.int .i64 (A.length:Int))))) 60 (some (.base (.int .i64 (0:Int))))) (H':=up (up (up (up mt 0 (some ([.mp (kdOf Tryz.prog 9) (setV ((A.take 0).map nameV))]))) 1 (some ([.mp (kdOf Tryz.prog 3) (setV (((A.take 0).flatMap (·.ports)).map idV))]))) 2 (some ([.mp (kdOf Tryz.prog 23) (setV (macsV ((A.take 0).flatMap (·.ports))))]))) 3 (some ([.mp (kdOf Tryz.prog 54) (setV (adsV ((A.take 0).flatMap (·.ports))))]))) (by decide) ?_ ?_ ?_)))))))))
      · exact aU (lR rfl) (aU (lR rfl) (aU (lR rfl) (aU (lI rfl) (aU (lI rfl) (aU (lI rfl) (aU (lI rfl) aM))))))
      · exact aU (kI rfl) (aU (kI rfl) (aU (kI rfl) (aU (kI rfl) aM)))
      refine W.loop_ind (α:=Nat) (fun x=>A.length - x) 4 (fun x=>up (up (up (up (up (up (up mt 4 (some (.mref 0))) 5 (some (.mref 1))) 6 (some (.mref 2))) 7 (some (.mref 3))) 58 (some (.isl (memsC A) A.length))) 59 (some (.base (.int .i64 (A.length:Int))))) 60 (some (.base (.int .i64 (x:Int))))) (fun x=>up (up (up (up mt 0 (some ([.mp (kdOf Tryz.prog 9) (setV ((A.take x).map nameV))]))) 1 (some ([.mp (kdOf Tryz.prog 3) (setV (((A.take x).flatMap (·.ports)).map idV))]))) 2 (some ([.mp (kdOf Tryz.prog 23) (setV (macsV ((A.take x).flatMap (·.ports))))]))) 3 (some ([.mp (kdOf Tryz.prog 54) (setV (adsV ((A.take x).flatMap (·.ports))))]))) (fun x=>x≤A.length) 0 (show 0≤A.length from Nat.zero_le _) ?_
      rintro i hIC ihC
      try (dsimp only at hIC)
      try dsimp only
      by_cases hc3:i < A.length
      · have g3:decide ((i:Int) < (A.length:Int))=true:=decide_eq_true (by omega)
        have hme:A[i]∈A:=List.getElem_mem hc3
        have htk:=take_snoc nameV hc3
        have hkd:kdOf Tryz.prog 9 (.string A[i].name):=kd_str hsk (hnA _ hme)
        have hnp:=hpA _ hme
        have hout:Value.string A[i].name ∉ (A.take i).map nameV:=fun h=>by
          obtain ⟨m,hm,e⟩:=List.mem_map.1 h
          unfold nameV at e
          injection e with e
          have:=take_not hnames (i:=i) (by simpa using hc3)
          rw [← List.map_take] at this
          exact this (by rw [List.getElem_map];exact List.mem_map.2 ⟨m,hm,e⟩)
        have hlk:=setV_out hout
        have hfl:(A.take (i + 1)).flatMap (·.ports)=(A.take i).flatMap (·.ports)++A[i].ports:=by
          rw [List.take_add_one,List.flatMap_append]
          simp [hc3]
        refine Wq (qW 128 129 rfl (qK rfl (Nl (Wq (Wt rfl ‹_› (Wu (Wq (Wb (Wq (qW 133 137 rfl (qJ rfl rfl ty103 ty150 (by omega) (Od rfl rfl (Lg rfl rfl ty150 rfl (mems_tk hc3)) (qB rfl ty150 (qS rfl ty150 (Sl rfl) rfl (Nl (Wq (Wq (qW 141 145 rfl (qM rfl (qF rfl ty150 rfl (qL rfl ty9 rfl (Od rfl rfl (LO.lookup rfl rfl rfl (KV.base _) rfl ty209 hms hkd (zero_of (by kernel_rfl)) hlk) (Nl (Wo rfl rfl (Wu (Wq (qW 154 158 rfl (qM rfl (qF rfl ty150 rfl (qL rfl ty9 rfl (On rfl rfl (LO.mapUpdate rfl rfl rfl (KV.base _) rfl rfl ty209 hms hkd (m':=setV ((A.take (i + 1)).map nameV)) (by rw [htk];exact setV_at _ _) (by rw [htk];exact setV_else _ _)) (Nl (Wq (qW 162 166 rfl (qF rfl ty150 rfl (qL rfl ty148 rfl (qH rfl ty148 (qM rfl (Nl ?_)))))))))))))))))))))))))))))))))))))))
        have hsp:=fun (j:Nat) (hj:j < A[i].ports.length)=>split_ports hc3 hj
        generalize (A.take i).flatMap (·.ports)=X at *
        generalize A[i].ports=ps at *
        rw [show X=X++ps.take 0 from by simp]
        refine Wb (W.rename [(0,0),(1,1),(2,2),(3,3)] 4 (T':=up (up (up (up (up (up (up (up (up (up mt 4 (some (.mref 0))) 5 (some (.mref 1))) 6 (some (.mref 2))) 7 (some (.mref 3))) 58 (some (.isl (memsC A) A.length))) 59 (some (.base (.int .i64 (A.length:Int))))) 60 (some (.base (.int .i64 (i:Int))))) 72 (some (.isl (prtsC ps) ps.length))) 73 (some (.base (.int .i64 (ps.length:Int))))) 74 (some (.base (.int .i64 (0:Int))))) (H':=up (up (up (up mt 0 (some ([.mp (kdOf Tryz.prog 9) (setV ((A.take (i + 1)).map nameV))]))) 1 (some ([.mp (kdOf Tryz.prog 3) (setV ((X++ps.take 0).map idV))]))) 2 (some ([.mp (kdOf Tryz.prog 23) (setV (macsV (X++ps.take 0)))]))) 3 (some ([.mp (kdOf Tryz.prog 54) (setV (adsV (X++ps.take 0)))]))) (by decide) ?_ ?_ ?_)
        · exact aU (lR rfl) (aU (lR rfl) (aU (lR rfl) (aU (lR rfl) (aU (lR rfl) (aU (lR rfl) (aU (lI rfl) (aU (lI rfl) (aU (lI rfl) (aU (lI rfl) aM)))))))))
        · exact aU (kI rfl) (aU (kI rfl) (aU (kI rfl) (aU (kI rfl) aM)))
        refine W.loop_ind (α:=Nat) (fun x=>ps.length - x) 4 (fun x=>up (up (up (up (up (up (up (up (up (up mt 4 (some (.mref 0))) 5 (some (.mref 1))) 6 (some (.mref 2))) 7 (some (.mref 3))) 58 (some (.isl (memsC A) A.length))) 59 (some (.base (.int .i64 (A.length:Int))))) 60 (some (.base (.int .i64 (i:Int))))) 72 (some (.isl (prtsC ps) ps.length))) 73 (some (.base (.int .i64 (ps.length:Int))))) 74 (some (.base (.int .i64 (x:Int))))) (fun x=>up (up (up (up mt 0 (some ([.mp (kdOf Tryz.prog 9) (setV ((A.take (i + 1)).map nameV))]))) 1 (some ([.mp (kdOf Tryz.prog 3) (setV ((X++ps.take x).map idV))]))) 2 (some ([.mp (kdOf Tryz.prog 23) (setV (macsV (X++ps.take x)))]))) 3 (some ([.mp (kdOf Tryz.prog 54) (setV (adsV (X++ps.take x)))]))) (fun x=>x≤ps.length) 0 (show 0≤ps.length from Nat.zero_le _) ?_
        rintro j hID ihD
        try (dsimp only at hID)
        try dsimp only
        by_cases hc4:j < ps.length
        · have g4:decide ((j:Int) < (ps.length:Int))=true:=decide_eq_true (by omega)
          obtain ⟨rest,hsp1⟩:=hsp j hc4
          have hids2:=hids
          have hmacs2:=hmacs
          have hads2:=hads
          have hprt2:=hprt
          rw [hsp1] at hids2 hmacs2 hads2 hprt2
          have hpi:=hprt2 ps[j] (by simp)
          have hQ:X++ps.take (j + 1)=(X++ps.take j)++[ps[j]]:=by rw [List.take_add_one,← List.append_assoc];simp [hc4]
          refine Wq (qW 170 171 rfl (qK rfl (Nl (Wq (Wt rfl ‹_› (Wu (Wq (Wb (Wq (qW 175 179 rfl (qJ rfl rfl ty148 ty157 (by omega) (Od rfl rfl (Lg rfl rfl ty157 rfl (prts_tk hc4)) (qB rfl ty157 (qS rfl ty157 (Sl rfl) rfl (Nl ?_)))))))))))))))
          generalize ps[j]=p at *
          generalize X++ps.take j=Q at *
          obtain ⟨a1,a2⟩:=ad_not hads2
          have hidn:Value.int .i64 p.id ∉ Q.map idV:=fun h=>by
            obtain ⟨m,hm,e⟩:=List.mem_map.1 h
            unfold idV at e
            injection e with _ e
            rw [List.map_append,List.map_cons] at hids2
            exact nodup_mid hids2 (List.mem_map.2 ⟨m,hm,e⟩)
          have l1:=setV_out hidn
          have l2:=setV_out a1
          have l3:=setV_out a2
          have hkdi:=kd_i64w hik hpi.id
          have hkd4:=kd_ad hpi.h4 hpi.l4
          have hkd6:=kd_ad hpi.h6 hpi.l6
          refine Wq (Wq (qW 183 199 rfl (qM rfl (qF rfl ty157 rfl (qL rfl ty3 rfl (Od rfl rfl (LO.lookup rfl rfl rfl (KV.base _) rfl ty208 hmi hkdi (zero_of (by kernel_rfl)) l1) (qM rfl (qU rfl rfl rfl (Mv rfl rfl) (qU rfl rfl rfl (Fa rfl rfl ty157 rfl (by decide)) (qU rfl rfl rfl (La rfl rfl rfl ty54 rfl (Tl rfl)) (qU rfl rfl rfl (LO.lookup rfl rfl rfl (kv_ad p.v4) rfl ty211 mk_ad hkd4 (zero_of (by kernel_rfl)) l2) (qP rfl rfl rfl (qM rfl (qU rfl rfl rfl (Mv rfl rfl) (qU rfl rfl rfl (Fa rfl rfl ty157 rfl (by decide)) (qU rfl rfl rfl (La rfl rfl rfl ty54 rfl (Tl rfl)) (qU rfl rfl rfl (LO.lookup rfl rfl rfl (kv_ad p.v6) rfl ty211 mk_ad hkd6 (zero_of (by kernel_rfl)) l3) (qP rfl rfl rfl (Nl (Wo rfl rfl (Wu (Wq (qW 208 212 rfl (qM rfl (qF rfl ty157 rfl (qL rfl ty3 rfl (On rfl rfl (LO.mapUpdate rfl rfl rfl (KV.base _) rfl rfl ty208 hmi hkdi (m':=setV ((Q++[p]).map idV)) (by rw [List.map_append];exact setV_at _ _) (by rw [List.map_append];exact setV_else _ _)) (Nl (Wq (W.joinK (α:=List Ad) 5 (fun x=>[(4,.mref 0),(5,.mref 1),(6,.mref 2),(7,.mref 3),(15,.own 4 0)]) (fun x=>up (up (up (up (up mt 0 (some ([.mp (kdOf Tryz.prog 9) (setV ((A.take (i + 1)).map nameV))]))) 1 (some ([.mp (kdOf Tryz.prog 3) (setV ((Q++[p]).map idV))]))) 2 (some ([.mp (kdOf Tryz.prog 23) (setV (macsV Q))]))) 3 (some ([.mp (kdOf Tryz.prog 54) (setV (x.map adV))]))) 4 (some (prtC p))) (fun x=>x=Q.flatMap adsP++(if zeroA p.v4=true then [] else [p.v4])) (.cons (t:=58) rfl (by exact .inl rfl) (.cons (t:=59) rfl (by exact .inl rfl) (.cons (t:=60) rfl (by exact .inl rfl) (.cons (t:=72) rfl (by exact .inl rfl) (.cons (t:=73) rfl (by exact .inl rfl) (.cons (t:=74) rfl (by exact .inl rfl) .nil)))))) ?_ ?_))))))))))))))))))))))))))))))
          rotate_left
          rintro L hIF
          try (dsimp only at hIF)
          try dsimp only [joinT,baseT,List.cons_append,List.nil_append]
          rotate_right
          ·
            by_cases hz:zeroA p.v4=true
            · have gz:(!zeroA p.v4)=false:=by rw [hz];rfl
              refine Wq (qW 216 220 rfl (qF rfl ty157 rfl (qG rfl ty54 rfl (Tl rfl) (qY rfl (zero_any p.v4) fok172 rfl (qO rfl (Nl (Wo rfl ‹_› (Wu ?_))))))))
              intro yJ KJ hJ
              refine W.renameJ [(0,0),(1,1),(2,2),(3,3),(4,177)] 5 (by decide) ?_ ?_ (hJ (Q.flatMap adsP) (show (Q.flatMap adsP)=Q.flatMap adsP++(if zeroA p.v4=true then [] else [p.v4]) from by rw [if_pos hz,List.append_nil]))
              · exact lC (lI rfl) (lC (lI rfl) (lC (lI rfl) (lC (lI rfl) (lC (lI rfl) (lC (lR rfl) (lC (lR rfl) (lC (lR rfl) (lC (lR rfl) (lC (lR rfl) (lC (lR rfl) lN))))))))))
              · exact aU (kR rfl) (aU (kI rfl) (aU (kI rfl) (aU (kI rfl) (aU (kI rfl) aM))))
            · have gz:(!zeroA p.v4)=true:=by simp [hz]
              refine Wq (qW 216 220 rfl (qF rfl ty157 rfl (qG rfl ty54 rfl (Tl rfl) (qY rfl (zero_any p.v4) fok172 rfl (qO rfl (Nl (Wt rfl ‹_› (qW 224 228 rfl (qM rfl (qF rfl ty157 rfl (qG rfl ty54 rfl (Tl rfl) (On rfl rfl (LO.mapUpdate rfl rfl rfl (kv_ad p.v4) rfl rfl ty211 mk_ad hkd4 (m':=setV ((Q.flatMap adsP++[p.v4]).map adV)) (by rw [List.map_append];exact setV_at _ _) (by rw [List.map_append];exact setV_else _ _)) (Nl ?_)))))))))))))
              intro yJ KJ hJ
              refine W.renameJ [(0,0),(1,1),(2,2),(3,3),(4,177)] 5 (by decide) ?_ ?_ (hJ (Q.flatMap adsP++[p.v4]) (show (Q.flatMap adsP++[p.v4])=Q.flatMap adsP++(if zeroA p.v4=true then [] else [p.v4]) from by rw [if_neg hz]))
              · exact lC (lI rfl) (lC (lI rfl) (lC (lI rfl) (lC (lI rfl) (lC (lI rfl) (lC (lR rfl) (lC (lR rfl) (lC (lR rfl) (lC (lR rfl) (lC (lR rfl) (lC (lR rfl) lN))))))))))
              · exact aU (kR rfl) (aU (kI rfl) (aU (kI rfl) (aU (kI rfl) (aU (kI rfl) aM))))
          refine Wq (W.joinK (α:=List Ad) 5 (fun x=>[(4,.mref 0),(5,.mref 1),(6,.mref 2),(7,.mref 3),(15,.own 4 0)]) (fun x=>up (up (up (up (up mt 0 (some ([.mp (kdOf Tryz.prog 9) (setV ((A.take (i + 1)).map nameV))]))) 1 (some ([.mp (kdOf Tryz.prog 3) (setV ((Q++[p]).map idV))]))) 2 (some ([.mp (kdOf Tryz.prog 23) (setV (macsV Q))]))) 3 (some ([.mp (kdOf Tryz.prog 54) (setV (x.map adV))]))) 4 (some (prtC p))) (fun x=>x=L++(if zeroA p.v6=true then [] else [p.v6])) (.cons (t:=58) rfl (by exact .inl rfl) (.cons (t:=59) rfl (by exact .inl rfl) (.cons (t:=60) rfl (by exact .inl rfl) (.cons (t:=72) rfl (by exact .inl rfl) (.cons (t:=73) rfl (by exact .inl rfl) (.cons (t:=74) rfl (by exact .inl rfl) .nil)))))) ?_ ?_)
          rotate_left
          rintro L2 hIG
          try (dsimp only at hIG)
          try dsimp only [joinT,baseT,List.cons_append,List.nil_append]
          rotate_right
          ·
            by_cases hz6:zeroA p.v6=true
            · have gz:(!zeroA p.v6)=false:=by rw [hz6];rfl
              refine Wq (qW 232 236 rfl (qF rfl ty157 rfl (qG rfl ty54 rfl (Tl rfl) (qY rfl (zero_any p.v6) fok172 rfl (qO rfl (Nl (Wo rfl ‹_› (Wu ?_))))))))
              intro yJ KJ hJ
              refine W.renameJ [(0,0),(1,1),(2,2),(3,3),(4,4)] 5 (by decide) ?_ ?_ (hJ L (show L=L++(if zeroA p.v6=true then [] else [p.v6]) from by rw [if_pos hz6,List.append_nil]))
              · exact lC (lI rfl) (lC (lI rfl) (lC (lI rfl) (lC (lI rfl) (lC (lI rfl) (lC (lR rfl) (lC (lR rfl) (lC (lR rfl) (lC (lR rfl) (lC (lR rfl) (lC (lR rfl) lN))))))))))
              · exact aU (kR rfl) (aU (kI rfl) (aU (kI rfl) (aU (kI rfl) (aU (kI rfl) aM))))
            · have gz:(!zeroA p.v6)=true:=by simp [hz6]
              refine Wq (qW 232 236 rfl (qF rfl ty157 rfl (qG rfl ty54 rfl (Tl rfl) (qY rfl (zero_any p.v6) fok172 rfl (qO rfl (Nl (Wt rfl ‹_› (qW 240 244 rfl (qM rfl (qF rfl ty157 rfl (qG rfl ty54 rfl (Tl rfl) (On rfl rfl (LO.mapUpdate rfl rfl rfl (kv_ad p.v6) rfl rfl ty211 mk_ad hkd6 (m':=setV ((L++[p.v6]).map adV)) (by rw [List.map_append];exact setV_at _ _) (by rw [List.map_append];exact setV_else _ _)) (Nl ?_)))))))))))))
              intro yJ KJ hJ
              refine W.renameJ [(0,0),(1,1),(2,2),(3,3),(4,4)] 5 (by decide) ?_ ?_ (hJ (L++[p.v6]) (show (L++[p.v6])=L++(if zeroA p.v6=true then [] else [p.v6]) from by rw [if_neg hz6]))
              · exact lC (lI rfl) (lC (lI rfl) (lC (lI rfl) (lC (lI rfl) (lC (lI rfl) (lC (lR rfl) (lC (lR rfl) (lC (lR rfl) (lC (lR rfl) (lC (lR rfl) (lC (lR rfl) lN))))))))))
              · exact aU (kR rfl) (aU (kI rfl) (aU (kI rfl) (aU (kI rfl) (aU (kI rfl) aM))))
          have hpm:=hpi.macs
          have hnm:=hpi.nm
          have hmn:=fun (k:Nat) (hk:k < p.macs.length)=>mac_not hmacs2 hk
          have hav:L2.map adV=adsV (Q++[p]):=by
            have h1:=‹L2=_›
            have h2:=‹L=_›
            rw [h1,h2]
            unfold adsV
            rw [List.flatMap_append,List.append_assoc]
            simp [adsP]
          refine Wq (qW 248 252 rfl (qF rfl ty157 rfl (qL rfl ty36 rfl (qH rfl ty36 (qM rfl (Nl ?_))))))
          rw [hav,show macsV Q=macsV Q++(p.macs.take 0).map macV from by simp]
          refine Wb (W.rename [(0,0),(1,1),(2,2),(3,3)] 4 (T':=up (up (up (up (up (up (up (up (up (up (up (up (up mt 4 (some (.mref 0))) 5 (some (.mref 1))) 6 (some (.mref 2))) 7 (some (.mref 3))) 58 (some (.isl (memsC A) A.length))) 59 (some (.base (.int .i64 (A.length:Int))))) 60 (some (.base (.int .i64 (i:Int))))) 72 (some (.isl (prtsC ps) ps.length))) 73 (some (.base (.int .i64 (ps.length:Int))))) 74 (some (.base (.int .i64 (j:Int))))) 112 (some (.isl (macsC p.macs) p.macs.length))) 113 (some (.base (.int .i64 (p.macs.length:Int))))) 114 (some (.base (.int .i64 (0:Int))))) (H':=up (up (up (up mt 0 (some ([.mp (kdOf Tryz.prog 9) (setV ((A.take (i + 1)).map nameV))]))) 1 (some ([.mp (kdOf Tryz.prog 3) (setV ((Q++[p]).map idV))]))) 2 (some ([.mp (kdOf Tryz.prog 23) (setV (macsV Q++(p.macs.take 0).map macV))]))) 3 (some ([.mp (kdOf Tryz.prog 54) (setV (adsV (Q++[p])))]))) (by decide) ?_ ?_ ?_)
          · exact aU (lR rfl) (aU (lR rfl) (aU (lR rfl) (aU (lR rfl) (aU (lR rfl) (aU (lR rfl) (aU (lR rfl) (aU (lR rfl) (aU (lR rfl) (aU (lI rfl) (aU (lI rfl) (aU (lI rfl) (aU (lI rfl) aM))))))))))))
          · exact aU (kI rfl) (aU (kI rfl) (aU (kI rfl) (aU (kI rfl) aM)))
          refine W.loop_ind (α:=Nat) (fun x=>p.macs.length - x) 4 (fun x=>up (up (up (up (up (up (up (up (up (up (up (up (up mt 4 (some (.mref 0))) 5 (some (.mref 1))) 6 (some (.mref 2))) 7 (some (.mref 3))) 58 (some (.isl (memsC A) A.length))) 59 (some (.base (.int .i64 (A.length:Int))))) 60 (some (.base (.int .i64 (i:Int))))) 72 (some (.isl (prtsC ps) ps.length))) 73 (some (.base (.int .i64 (ps.length:Int))))) 74 (some (.base (.int .i64 (j:Int))))) 112 (some (.isl (macsC p.macs) p.macs.length))) 113 (some (.base (.int .i64 (p.macs.length:Int))))) 114 (some (.base (.int .i64 (x:Int))))) (fun x=>up (up (up (up mt 0 (some ([.mp (kdOf Tryz.prog 9) (setV ((A.take (i + 1)).map nameV))]))) 1 (some ([.mp (kdOf Tryz.prog 3) (setV ((Q++[p]).map idV))]))) 2 (some ([.mp (kdOf Tryz.prog 23) (setV (macsV Q++(p.macs.take x).map macV))]))) 3 (some ([.mp (kdOf Tryz.prog 54) (setV (adsV (Q++[p])))]))) (fun x=>x≤p.macs.length) 0 (show 0≤p.macs.length from Nat.zero_le _) ?_
          rintro k hIE ihE
          try (dsimp only at hIE)
          try dsimp only
          by_cases hc5:k < p.macs.length
          · have g5:decide ((k:Int) < (p.macs.length:Int))=true:=decide_eq_true (by omega)
            have hmk':=hpm _ (List.getElem_mem hc5)
            have hlk5:=setV_out (hmn k hc5)
            have htk5:=take_snoc macV hc5
            refine Wq (qW 256 257 rfl (qK rfl (Nl (Wq (Wt rfl ‹_› (Wu (Wq (Wb (Wq (qW 261 265 rfl (qJ rfl rfl ty36 ty23 (by omega) (Od rfl rfl (Lg rfl rfl ty23 rfl (macs_tk (fun m hm=>(hpm m hm).1) hc5)) (qB rfl ty23 (On rfl rfl (Sr rfl rfl rfl rfl rfl ty23 ((bytesC_len _).trans hmk'.1) (by decide) (sp_all ((bytesC_len _).trans hmk'.1))) (Nl ?_)))))))))))))))
            generalize p.macs[k]=mc at *
            have hkm:=kd_mac hmk'.1 hmk'.2
            refine Wq (Wq (qW 269 272 rfl (qM rfl (qG rfl ty23 rfl (bytes_tk hmk'.1) (Od rfl rfl (LO.lookup rfl rfl rfl (kv_mac mc) rfl ty210 mk_mac hkm (zero_of (by kernel_rfl)) hlk5) (Nl (Wo rfl rfl (Wu (qW 281 284 rfl (qM rfl (qG rfl ty23 rfl (bytes_tk hmk'.1) (On rfl rfl (LO.mapUpdate rfl rfl rfl (kv_mac mc) rfl rfl ty210 mk_mac hkm (m':=setV (macsV Q++(p.macs.take (k + 1)).map macV)) (by rw [htk5,← List.append_assoc];exact setV_at _ _) (by rw [htk5,← List.append_assoc];exact setV_else _ _)) (Nl (qW 288 290 rfl (qZ rfl (iW _ (by omega)) (qM rfl (Nl (WL.rename [(0,0),(1,1),(2,2),(3,3)] 4 (by decide) ?_ ?_ (ihE (k + 1) (show p.macs.length - (k + 1) < p.macs.length - k from by omega) (show (k + 1)≤p.macs.length from by omega))))))))))))))))))))
            · exact aU (lR rfl) (aU (lR rfl) (aU (lR rfl) (aU (lR rfl) (aU (lR rfl) (aU (lR rfl) (aU (lR rfl) (aU (lR rfl) (aU (lR rfl) (aU (lI rfl) (aU (lI rfl) (aU (lI rfl) (aU (lI rfl) aM))))))))))))
            · exact aU (kI rfl) (aU (kI rfl) (aU (kI rfl) (aU (kI rfl) aM)))
          · have g5:decide ((k:Int) < (p.macs.length:Int))=false:=decide_eq_false (by omega)
            refine Wq (qW 256 257 rfl (qK rfl (Nl (Wq (Wo rfl ‹_› (Wx ?_))))))
            clear ihE
            obtain rfl:k=p.macs.length:=by omega
            rw [List.take_length,show macsV Q++p.macs.map macV=macsV (Q++[p]) from by simp [macsV],← hQ]
            refine qW 294 296 rfl (qZ rfl (iW _ (by omega)) (qM rfl (Nl (WL.rename [(0,0),(1,1),(2,2),(3,3)] 4 (by decide) ?_ ?_ (ihD (j + 1) (show ps.length - (j + 1) < ps.length - j from by omega) (show (j + 1)≤ps.length from by omega))))))
            · exact aU (lR rfl) (aU (lR rfl) (aU (lR rfl) (aU (lR rfl) (aU (lR rfl) (aU (lR rfl) (aU (lI rfl) (aU (lI rfl) (aU (lI rfl) (aU (lI rfl) aM)))))))))
            · exact aU (kI rfl) (aU (kI rfl) (aU (kI rfl) (aU (kI rfl) aM)))
        · have g4:decide ((j:Int) < (ps.length:Int))=false:=decide_eq_false (by omega)
          refine Wq (qW 170 171 rfl (qK rfl (Nl (Wq (Wo rfl ‹_› (Wx ?_))))))
          clear ihD
          obtain rfl:j=ps.length:=by omega
          rw [List.take_length,← hfl]
          refine qW 300 302 rfl (qZ rfl (iW _ (by omega)) (qM rfl (Nl (WL.rename [(0,0),(1,1),(2,2),(3,3)] 4 (by decide) ?_ ?_ (ihC (i + 1) (show A.length - (i + 1) < A.length - i from by omega) (show (i + 1)≤A.length from by omega))))))
          · exact aU (lR rfl) (aU (lR rfl) (aU (lR rfl) (aU (lI rfl) (aU (lI rfl) (aU (lI rfl) (aU (lI rfl) aM))))))
          · exact aU (kI rfl) (aU (kI rfl) (aU (kI rfl) (aU (kI rfl) aM)))
      · have g3:decide ((i:Int) < (A.length:Int))=false:=decide_eq_false (by omega)
        refine Wq (qW 128 129 rfl (qK rfl (Nl (Wq (Wo rfl ‹_› (Wx (Wq (qW 306 307 rfl (qA rfl (Nl (Wz ⟨.inl rfl,_,mt,Rc (Rt rfl) (Rv),aM,?_⟩)))))))))))
        exact ⟨rfl,rfl⟩
end Go.Proofs.YtlcndmciognneaaGreatDoor
