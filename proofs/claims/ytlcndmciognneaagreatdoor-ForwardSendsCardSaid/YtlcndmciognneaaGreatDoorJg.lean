/-
  Nothing occurs twice in a database: the document's test says so. Names, stations, ports that are right by themselves. Databases that the document's check lets pass. The document's check lets a right database pass.
-/
import Derived.Test.YtlcndmciognneaaGreatDoorJb
import Derived.Test.YtlcndmciognneaaGreatDoorMab
namespace Go.Proofs.YtlcndmciognneaaGreatDoor
open Go.RowKit
def asnV (m:Mem):Value:=.int .i64 m.asn
def nameV (m:Mem):Value:=.string m.name
def idV (p:Prt):Value:=.int .i64 p.id
def adsP (p:Prt):List Ad:=(if zeroA p.v4=true then [] else [p.v4])++(if zeroA p.v6=true then [] else [p.v6])
def adsV (l:List Prt):List Value:=(l.flatMap adsP).map adV
def macsV (l:List Prt):List Value:=(l.flatMap (·.macs)).map macV
def allP (d:Db):List Prt:=(d.servers++d.members).flatMap (·.ports)
structure PrtIn (p:Prt):Prop where
 id:-9223372036854775808≤p.id∧p.id≤9223372036854775807
 nm:p.macs.length≤1000
 macs:∀ m,m∈p.macs→m.length=6∧∀ x,x∈m→0≤x∧x≤255
 h4:0≤p.v4.hi∧p.v4.hi≤18446744073709551615
 l4:0≤p.v4.lo∧p.v4.lo≤18446744073709551615
 h6:0≤p.v6.hi∧p.v6.hi≤18446744073709551615
 l6:0≤p.v6.lo∧p.v6.lo≤18446744073709551615
structure Once (d:Db):Prop where
 sl:d.servers.length≤1000
 ml:d.members.length≤1000
 asn:∀ m,m∈d.servers++d.members→-9223372036854775808≤m.asn∧m.asn≤9223372036854775807
 name:∀ m,m∈d.servers++d.members→m.name.size≤maxLen
 np:∀ m,m∈d.servers++d.members→m.ports.length≤1000
 prt:∀ p,p∈allP d→PrtIn p
 same:∀ m,m∈d.servers→∀ h:0 < d.servers.length,m.asn=d.servers[0].asn
 asnM:∀ m,m∈d.members→∀ s,s∈d.servers→m.asn≠s.asn
 asnN:(d.members.map (·.asn)).Nodup
 names:((d.servers++d.members).map (·.name)).Nodup
 ids:((allP d).map (·.id)).Nodup
 macs:((allP d).flatMap (·.macs)).Nodup
 ads:((allP d).flatMap adsP).Nodup
theorem kd_i64w {P:Program} {t:TypeId} (hq:P.underlying t=some (.int .i64)) {i:Int} (h:-9223372036854775808≤i∧i≤9223372036854775807):kdOf P t (.int .i64 i):=kd_int hq (by
 unfold Lit.wf
 simp only [IntKind.min,IntKind.max,IntKind.signed,IntKind.bits,Bool.and_eq_true,decide_eq_true_eq]
 constructor
 ·have:-(2 ^ (64 - 1):Int)≤i:=by omega
  simpa using this
 ·have:i≤(2 ^ (64 - 1):Int) - 1:=by omega
  simpa using this)
theorem take_snoc {α β:Type} (g:α→β) {l:List α} {i:Nat} (h:i < l.length):(l.take (i + 1)).map g=(l.take i).map g++[g l[i]]:=by
 rw [List.take_add_one,List.map_append]
 simp [h]
theorem sp_all {cs ns:List AV} (h:ns.length=cs.length):Sp cs 0 ns ns:=⟨by omega,h,fun j c hj=>.inl ⟨Nat.zero_le _,by simpa using hj⟩⟩
theorem split_ports {A:List Mem} {i j:Nat} (hi:i < A.length) (hj:j < A[i].ports.length):∃ rest,A.flatMap (·.ports)=((A.take i).flatMap (·.ports)++A[i].ports.take j)++A[i].ports[j]::rest:=by
 have h1:A=A.take i++A[i]::A.drop (i + 1):=by rw [← List.drop_eq_getElem_cons hi,List.take_append_drop]
 have h2:A[i].ports=A[i].ports.take j++A[i].ports[j]::A[i].ports.drop (j + 1):=by rw [← List.drop_eq_getElem_cons hj,List.take_append_drop]
 refine ⟨A[i].ports.drop (j + 1)++(A.drop (i + 1)).flatMap (·.ports),?_⟩
 have h3:A.flatMap (·.ports)=(A.take i).flatMap (·.ports)++(A[i].ports++(A.drop (i + 1)).flatMap (·.ports)):=by
  conv=>lhs;rw [h1]
  rw [List.flatMap_append,List.flatMap_cons]
 have h4:∀ R:List Prt,A[i].ports++R=(A[i].ports.take j++A[i].ports[j]::A[i].ports.drop (j + 1))++R:=fun R=>by rw [← h2]
 rw [h3,h4]
 simp only [List.append_assoc,List.cons_append]
theorem nodup_mid {α:Type} {X Y:List α} {a:α} (h:(X++a::Y).Nodup):a ∉ X:=fun ha=>by
 rw [List.nodup_append] at h
 exact h.2.2 a ha a (by simp) rfl
theorem nodup_part {α:Type} {X Y Z:List α} (h:(X++(Y++Z)).Nodup):∀ a,a∈Y→a ∉ X:=fun a ha hx=>by
 rw [List.nodup_append] at h
 exact h.2.2 a hx a (List.mem_append_left _ ha) rfl
theorem adV_inj {a b:Ad} (h:adV a=adV b):a=b:=by
 unfold adV at h
 simp at h
 cases a;cases b
 simp_all
theorem macV_inj {a b:List Int} (h:macV a=macV b):a=b:=by
 unfold macV at h
 simp at h
 have:∀ (l m:List Int),l.map (fun x=>Value.int .u8 x)=m.map (fun x=>Value.int .u8 x)→l=m:=by
  intro l
  induction l with
  | nil=>intro m h;cases m with
   | nil=>rfl
   | cons y m=>simp at h
  | cons x l ih=>intro m h;cases m with
   | nil=>simp at h
   | cons y m=>simp at h;rw [h.1,ih m (by simpa using h.2)]
 exact this a b h
theorem not_map {α β:Type} {g:α→β} (hg:∀ x y,g x=g y→x=y) {l:List α} {a:α} (h:a ∉ l):g a ∉ l.map g:=fun hm=>by
 obtain ⟨b,hb,e⟩:=List.mem_map.1 hm
 exact h (hg _ _ e ▸ hb)
theorem zero_not (l:List Prt) {a:Ad} (hz:zeroA a=true):a ∉ l.flatMap adsP:=fun h=>by
 obtain ⟨p,_,hp⟩:=List.mem_flatMap.1 h
 unfold adsP at hp
 rcases List.mem_append.1 hp with hp|hp
 ·split at hp
  ·simp at hp
  ·rename_i hn;simp at hp;exact hn (hp ▸ hz)
 ·split at hp
  ·simp at hp
  ·rename_i hn;simp at hp;exact hn (hp ▸ hz)
theorem mac_not {X rest:List Prt} {p:Prt} (h:((X++p::rest).flatMap (·.macs)).Nodup) {k:Nat} (hk:k < p.macs.length):macV p.macs[k] ∉ macsV X++(p.macs.take k).map macV:=by
 have h2:p.macs=p.macs.take k++p.macs[k]::p.macs.drop (k + 1):=by rw [← List.drop_eq_getElem_cons hk,List.take_append_drop]
 rw [List.flatMap_append,List.flatMap_cons] at h
 have h3:((X.flatMap (·.macs)++p.macs.take k)++p.macs[k]::(p.macs.drop (k + 1)++rest.flatMap (·.macs))).Nodup:=by
  have h4:∀ R:List (List Int),p.macs++R=(p.macs.take k++p.macs[k]::p.macs.drop (k + 1))++R:=fun R=>by rw [← h2]
  rw [h4] at h
  simp only [List.append_assoc,List.cons_append] at h ⊢
  exact h
 unfold macsV
 rw [← List.map_append]
 exact not_map (fun _ _=>macV_inj) (nodup_mid h3)
theorem ad_not {X rest:List Prt} {p:Prt} (h:((X++p::rest).flatMap adsP).Nodup):adV p.v4 ∉ adsV X∧adV p.v6 ∉ adsV X:=by
 rw [List.flatMap_append,List.flatMap_cons] at h
 have key:∀ a:Ad,(zeroA a=true∨a∈adsP p)→adV a ∉ adsV X:=fun a ha=>by
  unfold adsV
  refine not_map (fun _ _=>adV_inj) ?_
  rcases ha with ha|ha
  ·exact zero_not X ha
  ·exact nodup_part h a ha
 constructor
 ·refine key _ ?_
  cases hz:zeroA p.v4 with
  | true=>exact .inl rfl
  | false=>exact .inr (by unfold adsP;rw [hz];simp)
 ·refine key _ ?_
  cases hz:zeroA p.v6 with
  | true=>exact .inl rfl
  | false=>exact .inr (by unfold adsP;rw [hz];simp)
theorem take_not {α:Type} {l:List α} (h:l.Nodup) {i:Nat} (hi:i < l.length):l[i] ∉ l.take i:=by
 have h1:l=l.take i++l[i]::l.drop (i + 1):=by rw [← List.drop_eq_getElem_cons hi,List.take_append_drop]
 rw [h1] at h
 exact nodup_mid h
set_option maxRecDepth 20000 in
set_option maxHeartbeats 2000000 in
theorem twice_any (d:Db) (hd:Once d):AFn Tryz.prog 134 0 [.agg (dbC d)] mt (.base (.bool false)) mt:=by
 refine AFn.eq Tryz.func134 rfl rfl (Nat.le_of_ble_eq_true rfl) ?_
 have hik:Tryz.prog.underlying 3=some (.int .i64):=lay_int ty3
 have hmi:MKey Tryz.prog 3 (kdOf Tryz.prog 3):=mk_int hik
 have hsl:=hd.sl
 have hml:=hd.ml
 have hall:=all_any d hd.sl hd.ml
 obtain ⟨A,hA⟩:∃ A,A=d.servers++d.members:=⟨_,rfl⟩
 rw [← hA] at hall
 have hAl:A.length≤2000:=by rw [hA,List.length_append];omega
 have hnA:=hd.name
 have hpA:=hd.np
 rw [← hA] at hnA hpA
 have hnames:=hd.names
 have hids:=hd.ids
 have hmacs:=hd.macs
 have hads:=hd.ads
 have hprt:=hd.prt
 unfold allP at hids hmacs hads hprt
 rw [← hA] at hnames hids hmacs hads hprt
 have hsk:Tryz.prog.underlying 9=some .string:=lay_str ty9
 have hms:MKey Tryz.prog 9 (kdOf Tryz.prog 9):=mk_str hsk
 refine Wq<|qW 0 2 rfl<|qC rfl<|qA rfl<|Nl<|Wq<|qW 6 16 rfl<|Od rfl rfl (LO.makeMap (kdOf Tryz.prog 3) rfl)<|Od rfl rfl (LO.makeMap (kdOf Tryz.prog 9) rfl)<|Od rfl rfl (LO.makeMap (kdOf Tryz.prog 3) rfl)<|Od rfl rfl (LO.makeMap (kdOf Tryz.prog 23) rfl)<|Od rfl rfl (LO.makeMap (kdOf Tryz.prog 54) rfl)<|qA rfl<|qA rfl<|qA rfl<|qA rfl<|qA rfl<|Nl ?_
 rw [← setV_nil]
 refine Wq<|Wq<|qW 20 24 rfl<|qF rfl ty105 rfl<|qL rfl ty103 rfl<|qH rfl ty103<|qM rfl<|Nl<|Wb<|W.rename [(0,0),(1,6),(2,7),(3,8),(4,9),(5,10)] 6 (T':=up (up (up (up (up (up (up (up (up mt 1 (some (.own 0 0))) 3 (some (.mref 1))) 4 (some (.mref 2))) 5 (some (.mref 3))) 6 (some (.mref 4))) 7 (some (.mref 5))) 24 (some (.isl (memsC d.servers) d.servers.length))) 25 (some (.base (.int .i64 (d.servers.length:Int))))) 26 (some (.base (.int .i64 (0:Int))))) (H':=up (up (up (up (up (up mt 0 (some (dbC d))) 1 (some ([.mp (kdOf Tryz.prog 3) (setV ((d.servers.take 0).map asnV))]))) 2 (some ([.mp (kdOf Tryz.prog 9) (setV [])]))) 3 (some ([.mp (kdOf Tryz.prog 3) (setV [])]))) 4 (some ([.mp (kdOf Tryz.prog 23) (setV [])]))) 5 (some ([.mp (kdOf Tryz.prog 54) (setV [])]))) (by decide) ?_ ?_ ?_
 ·exact aU (lR rfl) (aU (lR rfl) (aU (lR rfl) (aU (lI rfl) (aU (lI rfl) (aU (lI rfl) (aU (lI rfl) (aU (lI rfl) (aU (lI rfl) aM))))))))
 ·exact aU (kI rfl) (aU (kI rfl) (aU (kI rfl) (aU (kI rfl) (aU (kI rfl) (aU (kR rfl) aM)))))
 refine W.loop_ind (α:=Nat) (fun x=>d.servers.length - x) 6 (fun x=>up (up (up (up (up (up (up (up (up mt 1 (some (.own 0 0))) 3 (some (.mref 1))) 4 (some (.mref 2))) 5 (some (.mref 3))) 6 (some (.mref 4))) 7 (some (.mref 5))) 24 (some (.isl (memsC d.servers) d.servers.length))) 25 (some (.base (.int .i64 (d.servers.length:Int))))) 26 (some (.base (.int .i64 (x:Int))))) (fun x=>up (up (up (up (up (up mt 0 (some (dbC d))) 1 (some ([.mp (kdOf Tryz.prog 3) (setV ((d.servers.take x).map asnV))]))) 2 (some ([.mp (kdOf Tryz.prog 9) (setV [])]))) 3 (some ([.mp (kdOf Tryz.prog 3) (setV [])]))) 4 (some ([.mp (kdOf Tryz.prog 23) (setV [])]))) 5 (some ([.mp (kdOf Tryz.prog 54) (setV [])]))) (fun x=>x≤d.servers.length) 0 (show 0≤d.servers.length from Nat.zero_le _) ?_
 rintro i hIA ihA
 try (dsimp only at hIA)
 try dsimp only
 by_cases hc:i < d.servers.length
 ·have g1:decide ((i:Int) < (d.servers.length:Int))=true:=decide_eq_true (by omega)
  have hpos:0 < d.servers.length:=by omega
  have hme:d.servers[i]∈d.servers:=List.getElem_mem hc
  have hsame:=hd.same _ hme hpos
  have hkd:=kd_i64w hik (hd.asn _ (List.mem_append_left _ hme))
  have k1:(d.servers[i].asn != d.servers[0].asn)=false:=by rw [hsame];simp
  have htk:=take_snoc asnV hc
  refine Wq<|qW 28 29 rfl<|qK rfl<|Nl<|Wq<|Wt rfl ‹_›<|Wu<|Wq<|Wb<|Wq<|qW 33 37 rfl<|qJ rfl rfl ty103 ty150 (by omega)<|Od rfl rfl (Lg rfl rfl ty150 rfl (mems_tk hc))<|qB rfl ty150<|qS rfl ty150 (Sl rfl) rfl<|Nl<|Wq<|Wq<|Wd 41 49 (by decide) rfl mixed rfl<|qF rfl ty150 rfl<|qL rfl ty3 rfl<|qF rfl ty105 rfl<|qL rfl ty103 rfl<|qJ rfl rfl ty103 ty150 (by omega)<|qI rfl ty150 rfl<|Od rfl rfl (Li rfl rfl ((mems_tk hpos).2 0 _ rfl) ty3 rfl)<|qN rfl<|Nl ⟨by kernel_rfl,(Wo rfl ‹_›<|Wu<|qW 58 62 rfl<|qM rfl<|qF rfl ty150 rfl<|qL rfl ty3 rfl<|On rfl rfl (LO.mapUpdate rfl rfl rfl (KV.base _) rfl rfl ty208 hmi hkd (m':=setV ((d.servers.take (i + 1)).map asnV)) (by rw [htk];exact setV_at _ _) (by rw [htk];exact setV_else _ _))<|Nl<|qW 66 68 rfl<|qZ rfl (iW _ (by omega))<|qM rfl<|Nl<|WL.rename [(0,0),(1,1),(2,2),(3,3),(4,4),(5,5)] 6 (by decide) ?_ ?_ (ihA (i + 1) (show d.servers.length - (i + 1) < d.servers.length - i from by omega) (show (i + 1)≤d.servers.length from by omega)))⟩
  ·exact aU (lR rfl) (aU (lR rfl) (aU (lR rfl) (aU (lI rfl) (aU (lI rfl) (aU (lI rfl) (aU (lI rfl) (aU (lI rfl) (aU (lI rfl) aM))))))))
  ·exact aU (kI rfl) (aU (kI rfl) (aU (kI rfl) (aU (kI rfl) (aU (kI rfl) (aU (kR rfl) aM)))))
 ·have g1:decide ((i:Int) < (d.servers.length:Int))=false:=decide_eq_false (by omega)
  refine Wq<|qW 28 29 rfl<|qK rfl<|Nl<|Wq<|Wo rfl ‹_›<|Wx ?_
  clear ihA
  obtain rfl:i=d.servers.length:=by omega
  rw [List.take_length]
  refine Wq<|Wq<|qW 72 76 rfl<|qF rfl ty105 rfl<|qL rfl ty103 rfl<|qH rfl ty103<|qM rfl<|Nl ?_
  rw [show d.servers.map asnV=d.servers.map asnV++(d.members.take 0).map asnV from by simp]
  refine Wb<|W.rename [(0,0),(1,1),(2,2),(3,3),(4,4),(5,5)] 6 (T':=up (up (up (up (up (up (up (up (up mt 1 (some (.own 0 0))) 3 (some (.mref 1))) 4 (some (.mref 2))) 5 (some (.mref 3))) 6 (some (.mref 4))) 7 (some (.mref 5))) 43 (some (.isl (memsC d.members) d.members.length))) 44 (some (.base (.int .i64 (d.members.length:Int))))) 45 (some (.base (.int .i64 (0:Int))))) (H':=up (up (up (up (up (up mt 0 (some (dbC d))) 1 (some ([.mp (kdOf Tryz.prog 3) (setV (d.servers.map asnV++(d.members.take 0).map asnV))]))) 2 (some ([.mp (kdOf Tryz.prog 9) (setV [])]))) 3 (some ([.mp (kdOf Tryz.prog 3) (setV [])]))) 4 (some ([.mp (kdOf Tryz.prog 23) (setV [])]))) 5 (some ([.mp (kdOf Tryz.prog 54) (setV [])]))) (by decide) ?_ ?_ ?_
  ·exact aU (lR rfl) (aU (lR rfl) (aU (lR rfl) (aU (lI rfl) (aU (lI rfl) (aU (lI rfl) (aU (lI rfl) (aU (lI rfl) (aU (lI rfl) aM))))))))
  ·exact aU (kI rfl) (aU (kI rfl) (aU (kI rfl) (aU (kI rfl) (aU (kI rfl) (aU (kR rfl) aM)))))
  refine W.loop_ind (α:=Nat) (fun x=>d.members.length - x) 6 (fun x=>up (up (up (up (up (up (up (up (up mt 1 (some (.own 0 0))) 3 (some (.mref 1))) 4 (some (.mref 2))) 5 (some (.mref 3))) 6 (some (.mref 4))) 7 (some (.mref 5))) 43 (some (.isl (memsC d.members) d.members.length))) 44 (some (.base (.int .i64 (d.members.length:Int))))) 45 (some (.base (.int .i64 (x:Int))))) (fun x=>up (up (up (up (up (up mt 0 (some (dbC d))) 1 (some ([.mp (kdOf Tryz.prog 3) (setV (d.servers.map asnV++(d.members.take x).map asnV))]))) 2 (some ([.mp (kdOf Tryz.prog 9) (setV [])]))) 3 (some ([.mp (kdOf Tryz.prog 3) (setV [])]))) 4 (some ([.mp (kdOf Tryz.prog 23) (setV [])]))) 5 (some ([.mp (kdOf Tryz.prog 54) (setV [])]))) (fun x=>x≤d.members.length) 0 (show 0≤d.members.length from Nat.zero_le _) ?_
  rintro i hIB ihB
  try (dsimp only at hIB)
  try dsimp only
  by_cases hc2:i < d.members.length
  ·have g2:decide ((i:Int) < (d.members.length:Int))=true:=decide_eq_true (by omega)
   have hme:d.members[i]∈d.members:=List.getElem_mem hc2
   have hkd:=kd_i64w hik (hd.asn _ (List.mem_append_right _ hme))
   have htk:=take_snoc asnV hc2
   have hout:Value.int .i64 d.members[i].asn ∉ d.servers.map asnV++(d.members.take i).map asnV:=fun h=>by
    rcases List.mem_append.1 h with h|h
    ·obtain ⟨m,hm,e⟩:=List.mem_map.1 h
     unfold asnV at e
     injection e with _ e
     exact hd.asnM _ hme m hm e.symm
    ·obtain ⟨m,hm,e⟩:=List.mem_map.1 h
     unfold asnV at e
     injection e with _ e
     have:=take_not hd.asnN (i:=i) (by simpa using hc2)
     rw [← List.map_take] at this
     exact this (by rw [List.getElem_map];exact List.mem_map.2 ⟨m,hm,e⟩)
   have hlk:=setV_out hout
   refine Wq<|qW 80 81 rfl<|qK rfl<|Nl<|Wq<|Wt rfl ‹_›<|Wu<|Wq<|Wb<|Wq<|qW 85 89 rfl<|qJ rfl rfl ty103 ty150 (by omega)<|Od rfl rfl (Lg rfl rfl ty150 rfl (mems_tk hc2))<|qB rfl ty150<|qS rfl ty150 (Sl rfl) rfl<|Nl<|Wq<|Wq<|qW 93 97 rfl<|qM rfl<|qF rfl ty150 rfl<|qL rfl ty3 rfl<|Od rfl rfl (LO.lookup rfl rfl rfl (KV.base _) rfl ty208 hmi hkd (zero_of (by kernel_rfl)) hlk)<|Nl<|Wo rfl rfl<|Wu<|qW 106 110 rfl<|qM rfl<|qF rfl ty150 rfl<|qL rfl ty3 rfl<|On rfl rfl (LO.mapUpdate rfl rfl rfl (KV.base _) rfl rfl ty208 hmi hkd (m':=setV (d.servers.map asnV++(d.members.take (i + 1)).map asnV)) (by rw [htk,← List.append_assoc];exact setV_at _ _) (by rw [htk,← List.append_assoc];exact setV_else _ _))<|Nl<|qW 114 116 rfl<|qZ rfl (iW _ (by omega))<|qM rfl<|Nl<|WL.rename [(0,0),(1,1),(2,2),(3,3),(4,4),(5,5)] 6 (by decide) ?_ ?_ (ihB (i + 1) (show d.members.length - (i + 1) < d.members.length - i from by omega) (show (i + 1)≤d.members.length from by omega))
   ·exact aU (lR rfl) (aU (lR rfl) (aU (lR rfl) (aU (lI rfl) (aU (lI rfl) (aU (lI rfl) (aU (lI rfl) (aU (lI rfl) (aU (lI rfl) aM))))))))
   ·exact aU (kI rfl) (aU (kI rfl) (aU (kI rfl) (aU (kI rfl) (aU (kI rfl) (aU (kR rfl) aM)))))
  ·have g2:decide ((i:Int) < (d.members.length:Int))=false:=decide_eq_false (by omega)
   refine Wq<|qW 80 81 rfl<|qK rfl<|Nl<|Wq<|Wo rfl ‹_›<|Wx ?_
   clear ihB
   refine Wq<|Wq<|qW 120 124 rfl<|qG rfl ty105 rfl (Tl rfl)<|qY rfl (hall) fok135 rfl<|qH rfl ty103<|qM rfl<|Nl<|Wb<|W.rename [(0,2),(1,3),(2,4),(3,5)] 4 (T':=up (up (up (up (up (up (up mt 4 (some (.mref 0))) 5 (some (.mref 1))) 6 (some (.mref 2))) 7 (some (.mref 3))) 58 (some (.isl (memsC A) A.length))) 59 (some (.base (.int .i64 (A.length:Int))))) 60 (some (.base (.int .i64 (0:Int))))) (H':=up (up (up (up mt 0 (some ([.mp (kdOf Tryz.prog 9) (setV ((A.take 0).map nameV))]))) 1 (some ([.mp (kdOf Tryz.prog 3) (setV (((A.take 0).flatMap (·.ports)).map idV))]))) 2 (some ([.mp (kdOf Tryz.prog 23) (setV (macsV ((A.take 0).flatMap (·.ports))))]))) 3 (some ([.mp (kdOf Tryz.prog 54) (setV (adsV ((A.take 0).flatMap (·.ports))))]))) (by decide) ?_ ?_ ?_
   ·exact aU (lR rfl) (aU (lR rfl) (aU (lR rfl) (aU (lI rfl) (aU (lI rfl) (aU (lI rfl) (aU (lI rfl) aM))))))
   ·exact aU (kI rfl) (aU (kI rfl) (aU (kI rfl) (aU (kI rfl) aM)))
   refine W.loop_ind (α:=Nat) (fun x=>A.length - x) 4 (fun x=>up (up (up (up (up (up (up mt 4 (some (.mref 0))) 5 (some (.mref 1))) 6 (some (.mref 2))) 7 (some (.mref 3))) 58 (some (.isl (memsC A) A.length))) 59 (some (.base (.int .i64 (A.length:Int))))) 60 (some (.base (.int .i64 (x:Int))))) (fun x=>up (up (up (up mt 0 (some ([.mp (kdOf Tryz.prog 9) (setV ((A.take x).map nameV))]))) 1 (some ([.mp (kdOf Tryz.prog 3) (setV (((A.take x).flatMap (·.ports)).map idV))]))) 2 (some ([.mp (kdOf Tryz.prog 23) (setV (macsV ((A.take x).flatMap (·.ports))))]))) 3 (some ([.mp (kdOf Tryz.prog 54) (setV (adsV ((A.take x).flatMap (·.ports))))]))) (fun x=>x≤A.length) 0 (show 0≤A.length from Nat.zero_le _) ?_
   rintro i hIC ihC
   try (dsimp only at hIC)
   try dsimp only
   by_cases hc3:i < A.length
   ·have g3:decide ((i:Int) < (A.length:Int))=true:=decide_eq_true (by omega)
    have hme:A[i]∈A:=List.getElem_mem hc3
    have htk:=take_snoc nameV hc3
    have hkd:kdOf Tryz.prog 9 (.string A[i].name):=kd_str hsk (hnA _ hme)
    have hnp:=hpA _ hme
    have hout:Value.string A[i].name ∉ (A.take i).map nameV:=fun h=>by
     obtain ⟨m,hm,e⟩:=List.mem_map.1 h
     unfold nameV at e
     injection e with e
     have:=take_not hnames (i:=i) (by simpa using hc3)
     rw [← List.map_take] at this
     exact this (by rw [List.getElem_map];exact List.mem_map.2 ⟨m,hm,e⟩)
    have hlk:=setV_out hout
    have hfl:(A.take (i + 1)).flatMap (·.ports)=(A.take i).flatMap (·.ports)++A[i].ports:=by
     rw [List.take_add_one,List.flatMap_append]
     simp [hc3]
    refine Wq<|qW 128 129 rfl<|qK rfl<|Nl<|Wq<|Wt rfl ‹_›<|Wu<|Wq<|Wb<|Wq<|qW 133 137 rfl<|qJ rfl rfl ty103 ty150 (by omega)<|Od rfl rfl (Lg rfl rfl ty150 rfl (mems_tk hc3))<|qB rfl ty150<|qS rfl ty150 (Sl rfl) rfl<|Nl<|Wq<|Wq<|qW 141 145 rfl<|qM rfl<|qF rfl ty150 rfl<|qL rfl ty9 rfl<|Od rfl rfl (LO.lookup rfl rfl rfl (KV.base _) rfl ty209 hms hkd (zero_of (by kernel_rfl)) hlk)<|Nl<|Wo rfl rfl<|Wu<|Wq<|qW 154 158 rfl<|qM rfl<|qF rfl ty150 rfl<|qL rfl ty9 rfl<|On rfl rfl (LO.mapUpdate rfl rfl rfl (KV.base _) rfl rfl ty209 hms hkd (m':=setV ((A.take (i + 1)).map nameV)) (by rw [htk];exact setV_at _ _) (by rw [htk];exact setV_else _ _))<|Nl<|Wq<|qW 162 166 rfl<|qF rfl ty150 rfl<|qL rfl ty148 rfl<|qH rfl ty148<|qM rfl<|Nl ?_
    have hsp:=fun (j:Nat) (hj:j < A[i].ports.length)=>split_ports hc3 hj
    generalize (A.take i).flatMap (·.ports)=X at *
    generalize A[i].ports=ps at *
    rw [show X=X++ps.take 0 from by simp]
    refine Wb<|W.rename [(0,0),(1,1),(2,2),(3,3)] 4 (T':=up (up (up (up (up (up (up (up (up (up mt 4 (some (.mref 0))) 5 (some (.mref 1))) 6 (some (.mref 2))) 7 (some (.mref 3))) 58 (some (.isl (memsC A) A.length))) 59 (some (.base (.int .i64 (A.length:Int))))) 60 (some (.base (.int .i64 (i:Int))))) 72 (some (.isl (prtsC ps) ps.length))) 73 (some (.base (.int .i64 (ps.length:Int))))) 74 (some (.base (.int .i64 (0:Int))))) (H':=up (up (up (up mt 0 (some ([.mp (kdOf Tryz.prog 9) (setV ((A.take (i + 1)).map nameV))]))) 1 (some ([.mp (kdOf Tryz.prog 3) (setV ((X++ps.take 0).map idV))]))) 2 (some ([.mp (kdOf Tryz.prog 23) (setV (macsV (X++ps.take 0)))]))) 3 (some ([.mp (kdOf Tryz.prog 54) (setV (adsV (X++ps.take 0)))]))) (by decide) ?_ ?_ ?_
    ·exact aU (lR rfl) (aU (lR rfl) (aU (lR rfl) (aU (lR rfl) (aU (lR rfl) (aU (lR rfl) (aU (lI rfl) (aU (lI rfl) (aU (lI rfl) (aU (lI rfl) aM)))))))))
    ·exact aU (kI rfl) (aU (kI rfl) (aU (kI rfl) (aU (kI rfl) aM)))
    refine W.loop_ind (α:=Nat) (fun x=>ps.length - x) 4 (fun x=>up (up (up (up (up (up (up (up (up (up mt 4 (some (.mref 0))) 5 (some (.mref 1))) 6 (some (.mref 2))) 7 (some (.mref 3))) 58 (some (.isl (memsC A) A.length))) 59 (some (.base (.int .i64 (A.length:Int))))) 60 (some (.base (.int .i64 (i:Int))))) 72 (some (.isl (prtsC ps) ps.length))) 73 (some (.base (.int .i64 (ps.length:Int))))) 74 (some (.base (.int .i64 (x:Int))))) (fun x=>up (up (up (up mt 0 (some ([.mp (kdOf Tryz.prog 9) (setV ((A.take (i + 1)).map nameV))]))) 1 (some ([.mp (kdOf Tryz.prog 3) (setV ((X++ps.take x).map idV))]))) 2 (some ([.mp (kdOf Tryz.prog 23) (setV (macsV (X++ps.take x)))]))) 3 (some ([.mp (kdOf Tryz.prog 54) (setV (adsV (X++ps.take x)))]))) (fun x=>x≤ps.length) 0 (show 0≤ps.length from Nat.zero_le _) ?_
    rintro j hID ihD
    try (dsimp only at hID)
    try dsimp only
    by_cases hc4:j < ps.length
    ·have g4:decide ((j:Int) < (ps.length:Int))=true:=decide_eq_true (by omega)
     obtain ⟨rest,hsp1⟩:=hsp j hc4
     have hids2:=hids
     have hmacs2:=hmacs
     have hads2:=hads
     have hprt2:=hprt
     rw [hsp1] at hids2 hmacs2 hads2 hprt2
     have hpi:=hprt2 ps[j] (by simp)
     have hQ:X++ps.take (j + 1)=(X++ps.take j)++[ps[j]]:=by rw [List.take_add_one,← List.append_assoc];simp [hc4]
     refine Wq<|qW 170 171 rfl<|qK rfl<|Nl<|Wq<|Wt rfl ‹_›<|Wu<|Wq<|Wb<|Wq<|qW 175 179 rfl<|qJ rfl rfl ty148 ty157 (by omega)<|Od rfl rfl (Lg rfl rfl ty157 rfl (prts_tk hc4))<|qB rfl ty157<|qS rfl ty157 (Sl rfl) rfl<|Nl ?_
     generalize ps[j]=p at *
     generalize X++ps.take j=Q at *
     obtain ⟨a1,a2⟩:=ad_not hads2
     have hidn:Value.int .i64 p.id ∉ Q.map idV:=fun h=>by
      obtain ⟨m,hm,e⟩:=List.mem_map.1 h
      unfold idV at e
      injection e with _ e
      rw [List.map_append,List.map_cons] at hids2
      exact nodup_mid hids2 (List.mem_map.2 ⟨m,hm,e⟩)
     have l1:=setV_out hidn
     have l2:=setV_out a1
     have l3:=setV_out a2
     have hkdi:=kd_i64w hik hpi.id
     have hkd4:=kd_ad hpi.h4 hpi.l4
     have hkd6:=kd_ad hpi.h6 hpi.l6
     refine Wq<|Wq<|qW 183 199 rfl<|qM rfl<|qF rfl ty157 rfl<|qL rfl ty3 rfl<|Od rfl rfl (LO.lookup rfl rfl rfl (KV.base _) rfl ty208 hmi hkdi (zero_of (by kernel_rfl)) l1)<|qM rfl<|gM rfl rfl<|gF rfl rfl ty157 rfl<|gG rfl rfl ty54 rfl (Tl rfl)<|qU rfl rfl rfl (LO.lookup rfl rfl rfl (kv_ad p.v4) rfl ty211 mk_ad hkd4 (zero_of (by kernel_rfl)) l2)<|qP rfl rfl rfl<|qM rfl<|gM rfl rfl<|gF rfl rfl ty157 rfl<|gG rfl rfl ty54 rfl (Tl rfl)<|qU rfl rfl rfl (LO.lookup rfl rfl rfl (kv_ad p.v6) rfl ty211 mk_ad hkd6 (zero_of (by kernel_rfl)) l3)<|qP rfl rfl rfl<|Nl<|Wo rfl rfl<|Wu<|Wq<|qW 208 212 rfl<|qM rfl<|qF rfl ty157 rfl<|qL rfl ty3 rfl<|On rfl rfl (LO.mapUpdate rfl rfl rfl (KV.base _) rfl rfl ty208 hmi hkdi (m':=setV ((Q++[p]).map idV)) (by rw [List.map_append];exact setV_at _ _) (by rw [List.map_append];exact setV_else _ _))<|Nl<|Wq<|W.joinK (α:=List Ad) 5 (fun x=>[(4,.mref 0),(5,.mref 1),(6,.mref 2),(7,.mref 3),(15,.own 4 0)]) (fun x=>up (up (up (up (up mt 0 (some ([.mp (kdOf Tryz.prog 9) (setV ((A.take (i + 1)).map nameV))]))) 1 (some ([.mp (kdOf Tryz.prog 3) (setV ((Q++[p]).map idV))]))) 2 (some ([.mp (kdOf Tryz.prog 23) (setV (macsV Q))]))) 3 (some ([.mp (kdOf Tryz.prog 54) (setV (x.map adV))]))) 4 (some (prtC p))) (fun x=>x=Q.flatMap adsP++(if zeroA p.v4=true then [] else [p.v4])) (.cons (t:=58) rfl (by exact .inl rfl) (.cons (t:=59) rfl (by exact .inl rfl) (.cons (t:=60) rfl (by exact .inl rfl) (.cons (t:=72) rfl (by exact .inl rfl) (.cons (t:=73) rfl (by exact .inl rfl) (.cons (t:=74) rfl (by exact .inl rfl) .nil)))))) ?_ ?_
     rotate_left
     rintro L hIF
     try (dsimp only at hIF)
     try dsimp only [joinT,baseT,List.cons_append,List.nil_append]
     rotate_right
     ·
      by_cases hz:zeroA p.v4=true
      ·have gz:(!zeroA p.v4)=false:=by rw [hz];rfl
       refine Wq<|qW 216 220 rfl<|qF rfl ty157 rfl<|qG rfl ty54 rfl (Tl rfl)<|qY rfl (zero_any p.v4) fok172 rfl<|qO rfl<|Nl<|Wo rfl ‹_›<|Wu ?_
       intro yJ KJ hJ
       refine W.renameJ [(0,0),(1,1),(2,2),(3,3),(4,177)] 5 (by decide) ?_ ?_ (hJ (Q.flatMap adsP) (show (Q.flatMap adsP)=Q.flatMap adsP++(if zeroA p.v4=true then [] else [p.v4]) from by rw [if_pos hz,List.append_nil]))
       ·exact lC (lI rfl) (lC (lI rfl) (lC (lI rfl) (lC (lI rfl) (lC (lI rfl) (lC (lR rfl) (lC (lR rfl) (lC (lR rfl) (lC (lR rfl) (lC (lR rfl) (lC (lR rfl) lN))))))))))
       ·exact aU (kR rfl) (aU (kI rfl) (aU (kI rfl) (aU (kI rfl) (aU (kI rfl) aM))))
      ·have gz:(!zeroA p.v4)=true:=by simp [hz]
       refine Wq<|qW 216 220 rfl<|qF rfl ty157 rfl<|qG rfl ty54 rfl (Tl rfl)<|qY rfl (zero_any p.v4) fok172 rfl<|qO rfl<|Nl<|Wt rfl ‹_›<|qW 224 228 rfl<|qM rfl<|qF rfl ty157 rfl<|qG rfl ty54 rfl (Tl rfl)<|On rfl rfl (LO.mapUpdate rfl rfl rfl (kv_ad p.v4) rfl rfl ty211 mk_ad hkd4 (m':=setV ((Q.flatMap adsP++[p.v4]).map adV)) (by rw [List.map_append];exact setV_at _ _) (by rw [List.map_append];exact setV_else _ _))<|Nl ?_
       intro yJ KJ hJ
       refine W.renameJ [(0,0),(1,1),(2,2),(3,3),(4,177)] 5 (by decide) ?_ ?_ (hJ (Q.flatMap adsP++[p.v4]) (show (Q.flatMap adsP++[p.v4])=Q.flatMap adsP++(if zeroA p.v4=true then [] else [p.v4]) from by rw [if_neg hz]))
       ·exact lC (lI rfl) (lC (lI rfl) (lC (lI rfl) (lC (lI rfl) (lC (lI rfl) (lC (lR rfl) (lC (lR rfl) (lC (lR rfl) (lC (lR rfl) (lC (lR rfl) (lC (lR rfl) lN))))))))))
       ·exact aU (kR rfl) (aU (kI rfl) (aU (kI rfl) (aU (kI rfl) (aU (kI rfl) aM))))
     refine Wq<|W.joinK (α:=List Ad) 5 (fun x=>[(4,.mref 0),(5,.mref 1),(6,.mref 2),(7,.mref 3),(15,.own 4 0)]) (fun x=>up (up (up (up (up mt 0 (some ([.mp (kdOf Tryz.prog 9) (setV ((A.take (i + 1)).map nameV))]))) 1 (some ([.mp (kdOf Tryz.prog 3) (setV ((Q++[p]).map idV))]))) 2 (some ([.mp (kdOf Tryz.prog 23) (setV (macsV Q))]))) 3 (some ([.mp (kdOf Tryz.prog 54) (setV (x.map adV))]))) 4 (some (prtC p))) (fun x=>x=L++(if zeroA p.v6=true then [] else [p.v6])) (.cons (t:=58) rfl (by exact .inl rfl) (.cons (t:=59) rfl (by exact .inl rfl) (.cons (t:=60) rfl (by exact .inl rfl) (.cons (t:=72) rfl (by exact .inl rfl) (.cons (t:=73) rfl (by exact .inl rfl) (.cons (t:=74) rfl (by exact .inl rfl) .nil)))))) ?_ ?_
     rotate_left
     rintro L2 hIG
     try (dsimp only at hIG)
     try dsimp only [joinT,baseT,List.cons_append,List.nil_append]
     rotate_right
     ·
      by_cases hz6:zeroA p.v6=true
      ·have gz:(!zeroA p.v6)=false:=by rw [hz6];rfl
       refine Wq<|qW 232 236 rfl<|qF rfl ty157 rfl<|qG rfl ty54 rfl (Tl rfl)<|qY rfl (zero_any p.v6) fok172 rfl<|qO rfl<|Nl<|Wo rfl ‹_›<|Wu ?_
       intro yJ KJ hJ
       refine W.renameJ [(0,0),(1,1),(2,2),(3,3),(4,4)] 5 (by decide) ?_ ?_ (hJ L (show L=L++(if zeroA p.v6=true then [] else [p.v6]) from by rw [if_pos hz6,List.append_nil]))
       ·exact lC (lI rfl) (lC (lI rfl) (lC (lI rfl) (lC (lI rfl) (lC (lI rfl) (lC (lR rfl) (lC (lR rfl) (lC (lR rfl) (lC (lR rfl) (lC (lR rfl) (lC (lR rfl) lN))))))))))
       ·exact aU (kR rfl) (aU (kI rfl) (aU (kI rfl) (aU (kI rfl) (aU (kI rfl) aM))))
      ·have gz:(!zeroA p.v6)=true:=by simp [hz6]
       refine Wq<|qW 232 236 rfl<|qF rfl ty157 rfl<|qG rfl ty54 rfl (Tl rfl)<|qY rfl (zero_any p.v6) fok172 rfl<|qO rfl<|Nl<|Wt rfl ‹_›<|qW 240 244 rfl<|qM rfl<|qF rfl ty157 rfl<|qG rfl ty54 rfl (Tl rfl)<|On rfl rfl (LO.mapUpdate rfl rfl rfl (kv_ad p.v6) rfl rfl ty211 mk_ad hkd6 (m':=setV ((L++[p.v6]).map adV)) (by rw [List.map_append];exact setV_at _ _) (by rw [List.map_append];exact setV_else _ _))<|Nl ?_
       intro yJ KJ hJ
       refine W.renameJ [(0,0),(1,1),(2,2),(3,3),(4,4)] 5 (by decide) ?_ ?_ (hJ (L++[p.v6]) (show (L++[p.v6])=L++(if zeroA p.v6=true then [] else [p.v6]) from by rw [if_neg hz6]))
       ·exact lC (lI rfl) (lC (lI rfl) (lC (lI rfl) (lC (lI rfl) (lC (lI rfl) (lC (lR rfl) (lC (lR rfl) (lC (lR rfl) (lC (lR rfl) (lC (lR rfl) (lC (lR rfl) lN))))))))))
       ·exact aU (kR rfl) (aU (kI rfl) (aU (kI rfl) (aU (kI rfl) (aU (kI rfl) aM))))
     have hpm:=hpi.macs
     have hnm:=hpi.nm
     have hmn:=fun (k:Nat) (hk:k < p.macs.length)=>mac_not hmacs2 hk
     have hav:L2.map adV=adsV (Q++[p]):=by
      have h1:=‹L2=_›
      have h2:=‹L=_›
      rw [h1,h2]
      unfold adsV
      rw [List.flatMap_append,List.append_assoc]
      simp [adsP]
     refine Wq<|qW 248 252 rfl<|qF rfl ty157 rfl<|qL rfl ty36 rfl<|qH rfl ty36<|qM rfl<|Nl ?_
     rw [hav,show macsV Q=macsV Q++(p.macs.take 0).map macV from by simp]
     refine Wb<|W.rename [(0,0),(1,1),(2,2),(3,3)] 4 (T':=up (up (up (up (up (up (up (up (up (up (up (up (up mt 4 (some (.mref 0))) 5 (some (.mref 1))) 6 (some (.mref 2))) 7 (some (.mref 3))) 58 (some (.isl (memsC A) A.length))) 59 (some (.base (.int .i64 (A.length:Int))))) 60 (some (.base (.int .i64 (i:Int))))) 72 (some (.isl (prtsC ps) ps.length))) 73 (some (.base (.int .i64 (ps.length:Int))))) 74 (some (.base (.int .i64 (j:Int))))) 112 (some (.isl (macsC p.macs) p.macs.length))) 113 (some (.base (.int .i64 (p.macs.length:Int))))) 114 (some (.base (.int .i64 (0:Int))))) (H':=up (up (up (up mt 0 (some ([.mp (kdOf Tryz.prog 9) (setV ((A.take (i + 1)).map nameV))]))) 1 (some ([.mp (kdOf Tryz.prog 3) (setV ((Q++[p]).map idV))]))) 2 (some ([.mp (kdOf Tryz.prog 23) (setV (macsV Q++(p.macs.take 0).map macV))]))) 3 (some ([.mp (kdOf Tryz.prog 54) (setV (adsV (Q++[p])))]))) (by decide) ?_ ?_ ?_
     ·exact aU (lR rfl) (aU (lR rfl) (aU (lR rfl) (aU (lR rfl) (aU (lR rfl) (aU (lR rfl) (aU (lR rfl) (aU (lR rfl) (aU (lR rfl) (aU (lI rfl) (aU (lI rfl) (aU (lI rfl) (aU (lI rfl) aM))))))))))))
     ·exact aU (kI rfl) (aU (kI rfl) (aU (kI rfl) (aU (kI rfl) aM)))
     refine W.loop_ind (α:=Nat) (fun x=>p.macs.length - x) 4 (fun x=>up (up (up (up (up (up (up (up (up (up (up (up (up mt 4 (some (.mref 0))) 5 (some (.mref 1))) 6 (some (.mref 2))) 7 (some (.mref 3))) 58 (some (.isl (memsC A) A.length))) 59 (some (.base (.int .i64 (A.length:Int))))) 60 (some (.base (.int .i64 (i:Int))))) 72 (some (.isl (prtsC ps) ps.length))) 73 (some (.base (.int .i64 (ps.length:Int))))) 74 (some (.base (.int .i64 (j:Int))))) 112 (some (.isl (macsC p.macs) p.macs.length))) 113 (some (.base (.int .i64 (p.macs.length:Int))))) 114 (some (.base (.int .i64 (x:Int))))) (fun x=>up (up (up (up mt 0 (some ([.mp (kdOf Tryz.prog 9) (setV ((A.take (i + 1)).map nameV))]))) 1 (some ([.mp (kdOf Tryz.prog 3) (setV ((Q++[p]).map idV))]))) 2 (some ([.mp (kdOf Tryz.prog 23) (setV (macsV Q++(p.macs.take x).map macV))]))) 3 (some ([.mp (kdOf Tryz.prog 54) (setV (adsV (Q++[p])))]))) (fun x=>x≤p.macs.length) 0 (show 0≤p.macs.length from Nat.zero_le _) ?_
     rintro k hIE ihE
     try (dsimp only at hIE)
     try dsimp only
     by_cases hc5:k < p.macs.length
     ·have g5:decide ((k:Int) < (p.macs.length:Int))=true:=decide_eq_true (by omega)
      have hmk':=hpm _ (List.getElem_mem hc5)
      have hlk5:=setV_out (hmn k hc5)
      have htk5:=take_snoc macV hc5
      refine Wq<|qW 256 257 rfl<|qK rfl<|Nl<|Wq<|Wt rfl ‹_›<|Wu<|Wq<|Wb<|Wq<|qW 261 265 rfl<|qJ rfl rfl ty36 ty23 (by omega)<|Od rfl rfl (Lg rfl rfl ty23 rfl (macs_tk (fun m hm=>(hpm m hm).1) hc5)) (qB rfl ty23<|On rfl rfl (Sr rfl rfl rfl rfl rfl ty23 ((bytesC_len _).trans hmk'.1) (by decide) (sp_all ((bytesC_len _).trans hmk'.1)))<|Nl ?_)
      generalize p.macs[k]=mc at *
      have hkm:=kd_mac hmk'.1 hmk'.2
      refine Wq<|Wq<|qW 269 272 rfl<|qM rfl<|qG rfl ty23 rfl (bytes_tk hmk'.1)<|Od rfl rfl (LO.lookup rfl rfl rfl (kv_mac mc) rfl ty210 mk_mac hkm (zero_of (by kernel_rfl)) hlk5)<|Nl<|Wo rfl rfl<|Wu<|qW 281 284 rfl<|qM rfl<|qG rfl ty23 rfl (bytes_tk hmk'.1)<|On rfl rfl (LO.mapUpdate rfl rfl rfl (kv_mac mc) rfl rfl ty210 mk_mac hkm (m':=setV (macsV Q++(p.macs.take (k + 1)).map macV)) (by rw [htk5,← List.append_assoc];exact setV_at _ _) (by rw [htk5,← List.append_assoc];exact setV_else _ _))<|Nl<|qW 288 290 rfl<|qZ rfl (iW _ (by omega))<|qM rfl<|Nl<|WL.rename [(0,0),(1,1),(2,2),(3,3)] 4 (by decide) ?_ ?_ (ihE (k + 1) (show p.macs.length - (k + 1) < p.macs.length - k from by omega) (show (k + 1)≤p.macs.length from by omega))
      ·exact aU (lR rfl) (aU (lR rfl) (aU (lR rfl) (aU (lR rfl) (aU (lR rfl) (aU (lR rfl) (aU (lR rfl) (aU (lR rfl) (aU (lR rfl) (aU (lI rfl) (aU (lI rfl) (aU (lI rfl) (aU (lI rfl) aM))))))))))))
      ·exact aU (kI rfl) (aU (kI rfl) (aU (kI rfl) (aU (kI rfl) aM)))
     ·have g5:decide ((k:Int) < (p.macs.length:Int))=false:=decide_eq_false (by omega)
      refine Wq<|qW 256 257 rfl<|qK rfl<|Nl<|Wq<|Wo rfl ‹_›<|Wx ?_
      clear ihE
      obtain rfl:k=p.macs.length:=by omega
      rw [List.take_length,show macsV Q++p.macs.map macV=macsV (Q++[p]) from by simp [macsV],← hQ]
      refine qW 294 296 rfl<|qZ rfl (iW _ (by omega))<|qM rfl<|Nl<|WL.rename [(0,0),(1,1),(2,2),(3,3)] 4 (by decide) ?_ ?_ (ihD (j + 1) (show ps.length - (j + 1) < ps.length - j from by omega) (show (j + 1)≤ps.length from by omega))
      ·exact aU (lR rfl) (aU (lR rfl) (aU (lR rfl) (aU (lR rfl) (aU (lR rfl) (aU (lR rfl) (aU (lI rfl) (aU (lI rfl) (aU (lI rfl) (aU (lI rfl) aM)))))))))
      ·exact aU (kI rfl) (aU (kI rfl) (aU (kI rfl) (aU (kI rfl) aM)))
    ·have g4:decide ((j:Int) < (ps.length:Int))=false:=decide_eq_false (by omega)
     refine Wq<|qW 170 171 rfl<|qK rfl<|Nl<|Wq<|Wo rfl ‹_›<|Wx ?_
     clear ihD
     obtain rfl:j=ps.length:=by omega
     rw [List.take_length,← hfl]
     refine qW 300 302 rfl<|qZ rfl (iW _ (by omega))<|qM rfl<|Nl<|WL.rename [(0,0),(1,1),(2,2),(3,3)] 4 (by decide) ?_ ?_ (ihC (i + 1) (show A.length - (i + 1) < A.length - i from by omega) (show (i + 1)≤A.length from by omega))
     ·exact aU (lR rfl) (aU (lR rfl) (aU (lR rfl) (aU (lI rfl) (aU (lI rfl) (aU (lI rfl) (aU (lI rfl) aM))))))
     ·exact aU (kI rfl) (aU (kI rfl) (aU (kI rfl) (aU (kI rfl) aM)))
   ·have g3:decide ((i:Int) < (A.length:Int))=false:=decide_eq_false (by omega)
    refine Wq<|qW 128 129 rfl<|qK rfl<|Nl<|Wq<|Wo rfl ‹_›<|Wx<|Wq<|qW 306 307 rfl<|qA rfl<|Nl<|Wz ⟨.inl rfl,_,mt,Rc (Rt rfl) (Rv),aM,?_⟩
    exact ⟨rfl,rfl⟩
def okC (c:Int):Prop:=(97≤c∧c≤122)∨(65≤c∧c≤90)∨(48≤c∧c≤57)∨c=45∨c=58
structure NameOk (s:ByteArray):Prop where
 lo:1≤s.size
 hi:s.size≤32
 ch:∀ (i:Nat) b,s[i]?=some b→okC (b.toNat:Int)
theorem name_any (s:ByteArray) (hs:NameOk s):AFn Tryz.prog 170 0 [.base (.string s)] mt (.base (.bool true)) mt:=by
 refine AFn.eq Tryz.func170 rfl rfl (Nat.le_of_ble_eq_true rfl) ?_
 obtain ⟨hlo,hhi,hch⟩:=hs
 refine Wq<|qW 0 1 rfl<|qA rfl<|Nl<|Wq<|Wq<|qW 5 8 rfl<|qM rfl<|Od rfl rfl (LO.len_str rfl rfl ty9)<|qM rfl<|Nl<|Wb<|W.rename [] 0 (T':=up (up (up mt 0 (some (.base (.string s)))) 6 (some (.base (.int .i64 (s.size:Int))))) 7 (some (.base (.int .i64 (0:Int))))) (H':=mt) (by decide) ?_ ?_ ?_
 ·exact aU (lR rfl) (aU (lR rfl) (aU (lR rfl) aM))
 ·exact aM
 refine W.loop_ind (α:=Nat) (fun x=>s.size - x) 0 (fun x=>up (up (up mt 0 (some (.base (.string s)))) 6 (some (.base (.int .i64 (s.size:Int))))) 7 (some (.base (.int .i64 (x:Int))))) (fun x=>mt) (fun x=>x≤s.size) 0 (show 0≤s.size from Nat.zero_le _) ?_
 rintro i hIA ihA
 try (dsimp only at hIA)
 try dsimp only
 by_cases hc:i < s.size
 ·have g1:decide ((i:Int) < (s.size:Int))=true:=decide_eq_true (by omega)
  obtain ⟨b,hb⟩:∃ b,s[i]?=some b:=⟨s[i],getElem?_pos s i hc⟩
  have hok:=hch i b hb
  refine Wq<|qW 12 13 rfl<|qK rfl<|Nl<|Wq<|Wt rfl ‹_›<|Wu<|Wq<|Wb<|Wq<|qW 17 19 rfl<|qM rfl<|qA rfl<|Nl<|Wq<|qW 23 27 rfl<|qM rfl<|qM rfl<|Od rfl rfl (LO.indexStr rfl rfl rfl rfl ty9 hb)<|qA rfl<|Nl ?_
  generalize (b.toNat:Int)=c at *
  unfold okC at hok
  rcases hok with hok|hok|hok|hok|hok
  ·have k0:decide (c ≥ 97)=true:=decide_eq_true (by omega)
   have k1:decide (c≤122)=true:=decide_eq_true (by omega)
   refine Wq<|qW 31 62 rfl<|qM rfl<|qGe rfl<|qM rfl<|gM rfl ‹_›<|gLe rfl ‹_›<|qT rfl ‹_› rfl<|qM rfl<|qD rfl ‹_› rfl<|qD rfl ‹_› rfl<|qD rfl ‹_› rfl<|Ud rfl rfl rfl rfl<|Ud rfl rfl rfl rfl<|qD rfl ‹_› rfl<|qT rfl ‹_› rfl<|qM rfl<|qD rfl rfl rfl<|qD rfl rfl rfl<|qD rfl rfl rfl<|Ud rfl rfl rfl rfl<|Ud rfl rfl rfl rfl<|qD rfl rfl rfl<|qT rfl rfl rfl<|qM rfl<|qD rfl rfl rfl<|qD rfl rfl rfl<|qT rfl rfl rfl<|qM rfl<|qD rfl rfl rfl<|qD rfl rfl rfl<|qT rfl rfl rfl<|qO rfl<|Nl<|Wo rfl rfl<|Wu<|qW 71 73 rfl<|qZ rfl (iW _ (by omega))<|qM rfl<|Nl<|WL.rename [] 0 (by decide) ?_ ?_ (ihA (i + 1) (show s.size - (i + 1) < s.size - i from by omega) (show (i + 1)≤s.size from by omega))
   ·exact aU (lR rfl) (aU (lR rfl) (aU (lR rfl) aM))
   ·exact aM
  ·have k0:decide (c ≥ 97)=false:=decide_eq_false (by omega)
   have k1:decide (c ≥ 65)=true:=decide_eq_true (by omega)
   have k2:decide (c≤90)=true:=decide_eq_true (by omega)
   refine Wq<|qW 31 62 rfl<|qM rfl<|qGe rfl<|qM rfl<|qD rfl ‹_› rfl<|qD rfl ‹_› rfl<|qP rfl ‹_› rfl<|qM rfl<|gM rfl rfl<|gGe rfl rfl<|gM rfl rfl<|gM rfl ‹_›<|gLe rfl ‹_›<|qU rfl rfl rfl (Pt rfl rfl ‹_› rfl)<|qP rfl rfl rfl<|qM rfl<|qD rfl ‹_› rfl<|qD rfl ‹_› rfl<|qD rfl ‹_› rfl<|Ud rfl rfl rfl rfl<|Ud rfl rfl rfl rfl<|qD rfl ‹_› rfl<|qT rfl ‹_› rfl<|qM rfl<|qD rfl rfl rfl<|qD rfl rfl rfl<|qT rfl rfl rfl<|qM rfl<|qD rfl rfl rfl<|qD rfl rfl rfl<|qT rfl rfl rfl<|qO rfl<|Nl<|Wo rfl rfl<|Wu<|qW 71 73 rfl<|qZ rfl (iW _ (by omega))<|qM rfl<|Nl<|WL.rename [] 0 (by decide) ?_ ?_ (ihA (i + 1) (show s.size - (i + 1) < s.size - i from by omega) (show (i + 1)≤s.size from by omega))
   ·exact aU (lR rfl) (aU (lR rfl) (aU (lR rfl) aM))
   ·exact aM
  ·have k0:decide (c ≥ 97)=false:=decide_eq_false (by omega)
   have k1:decide (c ≥ 65)=false:=decide_eq_false (by omega)
   have k2:decide (c ≥ 48)=true:=decide_eq_true (by omega)
   have k3:decide (c≤57)=true:=decide_eq_true (by omega)
   refine Wq<|qW 31 62 rfl<|qM rfl<|qGe rfl<|qM rfl<|qD rfl ‹_› rfl<|qD rfl ‹_› rfl<|qP rfl ‹_› rfl<|qM rfl<|gM rfl rfl<|gGe rfl rfl<|gM rfl rfl<|qD rfl ‹_› rfl<|qD rfl ‹_› rfl<|qU rfl rfl rfl (Pf0 rfl rfl ‹_› rfl)<|qP rfl rfl rfl<|qM rfl<|gM rfl rfl<|gGe rfl rfl<|gM rfl rfl<|gM rfl ‹_›<|gLe rfl ‹_›<|qU rfl rfl rfl (Pt rfl rfl ‹_› rfl)<|qP rfl rfl rfl<|qM rfl<|qD rfl ‹_› rfl<|qD rfl ‹_› rfl<|qT rfl ‹_› rfl<|qM rfl<|qD rfl rfl rfl<|qD rfl rfl rfl<|qT rfl rfl rfl<|qO rfl<|Nl<|Wo rfl rfl<|Wu<|qW 71 73 rfl<|qZ rfl (iW _ (by omega))<|qM rfl<|Nl<|WL.rename [] 0 (by decide) ?_ ?_ (ihA (i + 1) (show s.size - (i + 1) < s.size - i from by omega) (show (i + 1)≤s.size from by omega))
   ·exact aU (lR rfl) (aU (lR rfl) (aU (lR rfl) aM))
   ·exact aM
  ·have k0:decide (c ≥ 97)=false:=decide_eq_false (by omega)
   have k1:decide (c ≥ 65)=false:=decide_eq_false (by omega)
   have k2:decide (c ≥ 48)=false:=decide_eq_false (by omega)
   have k3:(c == 45)=true:=by simp;omega
   refine Wq<|qW 31 62 rfl<|qM rfl<|qGe rfl<|qM rfl<|qD rfl ‹_› rfl<|qD rfl ‹_› rfl<|qP rfl ‹_› rfl<|qM rfl<|gM rfl rfl<|gGe rfl rfl<|gM rfl rfl<|qD rfl ‹_› rfl<|qD rfl ‹_› rfl<|qU rfl rfl rfl (Pf0 rfl rfl ‹_› rfl)<|qP rfl rfl rfl<|qM rfl<|gM rfl rfl<|gGe rfl rfl<|gM rfl rfl<|qD rfl ‹_› rfl<|qD rfl ‹_› rfl<|qU rfl rfl rfl (Pf0 rfl rfl ‹_› rfl)<|qP rfl rfl rfl<|qM rfl<|gM rfl rfl<|gE rfl rfl<|qP rfl rfl rfl<|qM rfl<|qD rfl ‹_› rfl<|qD rfl ‹_› rfl<|qT rfl ‹_› rfl<|qO rfl<|Nl<|Wo rfl rfl<|Wu<|qW 71 73 rfl<|qZ rfl (iW _ (by omega))<|qM rfl<|Nl<|WL.rename [] 0 (by decide) ?_ ?_ (ihA (i + 1) (show s.size - (i + 1) < s.size - i from by omega) (show (i + 1)≤s.size from by omega))
   ·exact aU (lR rfl) (aU (lR rfl) (aU (lR rfl) aM))
   ·exact aM
  ·have k0:decide (c ≥ 97)=false:=decide_eq_false (by omega)
   have k1:decide (c ≥ 65)=false:=decide_eq_false (by omega)
   have k2:decide (c ≥ 48)=true:=decide_eq_true (by omega)
   have k3:decide (c≤57)=false:=decide_eq_false (by omega)
   have k4:(c == 45)=false:=by simp;omega
   have k5:(c == 58)=true:=by simp;omega
   have k6:(!(c == 58))=false:=by rw [k5];rfl
   refine Wq<|qW 31 62 rfl<|qM rfl<|qGe rfl<|qM rfl<|qD rfl ‹_› rfl<|qD rfl ‹_› rfl<|qP rfl ‹_› rfl<|qM rfl<|gM rfl rfl<|gGe rfl rfl<|gM rfl rfl<|qD rfl ‹_› rfl<|qD rfl ‹_› rfl<|qU rfl rfl rfl (Pf0 rfl rfl ‹_› rfl)<|qP rfl rfl rfl<|qM rfl<|gM rfl rfl<|gGe rfl rfl<|gM rfl rfl<|gM rfl ‹_›<|gLe rfl ‹_›<|qU rfl rfl rfl (Pt rfl rfl ‹_› rfl)<|qP rfl rfl rfl<|qM rfl<|gM rfl ‹_›<|gE rfl ‹_›<|qP rfl ‹_› rfl<|qM rfl<|gM rfl ‹_›<|gE rfl ‹_›<|qP rfl ‹_› rfl<|qO rfl<|Nl<|Wo rfl ‹_›<|Wu<|qW 71 73 rfl<|qZ rfl (iW _ (by omega))<|qM rfl<|Nl<|WL.rename [] 0 (by decide) ?_ ?_ (ihA (i + 1) (show s.size - (i + 1) < s.size - i from by omega) (show (i + 1)≤s.size from by omega))
   ·exact aU (lR rfl) (aU (lR rfl) (aU (lR rfl) aM))
   ·exact aM
 ·have g1:decide ((i:Int) < (s.size:Int))=false:=decide_eq_false (by omega)
  have k1:decide ((s.size:Int) ≥ 1)=true:=decide_eq_true (by omega)
  have k2:decide ((s.size:Int)≤32)=true:=decide_eq_true (by omega)
  refine Wq<|qW 12 13 rfl<|qK rfl<|Nl<|Wq<|Wo rfl ‹_›<|Wx<|Wq<|qW 77 86 rfl<|qM rfl<|Od rfl rfl (LO.len_str rfl rfl ty9)<|qGe rfl<|qM rfl<|gM rfl ‹_›<|qU rfl ‹_› rfl (LO.len_str rfl rfl ty9)<|gLe rfl ‹_›<|qT rfl ‹_› rfl<|qA rfl<|Nl<|Wz ⟨.inl rfl,_,mt,Rc (Rt rfl) (Rv),aM,?_⟩
  exact ⟨by rw [k2];rfl,rfl⟩
def grpM (m:List Int):Bool:=gB m 0 % 2 == 1
theorem grpM_any (m:List Int) (hl:m.length=6) (hB:IsB m):AFn Tryz.prog 23 0 [.agg (bytesC m)] mt (.base (.bool (grpM m))) mt:=by
 refine AFn.eq Tryz.func23 rfl rfl (Nat.le_of_ble_eq_true rfl) ?_
 have b0:=hB.at 0
 refine Wq<|qW 0 2 rfl<|qC rfl<|qA rfl<|Nl<|Wq<|qW 6 11 rfl<|Od rfl rfl (Ir rfl rfl rfl rfl ty23 ty5 (by decide))<|Od rfl rfl (Ld rfl rfl rfl (by_at0 (by rw [hl];decide)) ty5 rfl)<|Od rfl rfl (LO.rem rfl rfl rfl (by omega))<|qE rfl<|qA rfl<|Nl<|Wz ⟨.inl rfl,_,mt,Rc (Rt rfl) (Rv),aM,?_⟩
 exact ⟨by unfold grpM;rw [← Int.tmod_eq_emod_of_nonneg b0.1];rfl,rfl⟩
structure PrtOk (p:Prt):Prop where
 id:1≤p.id∧p.id≤999
 sw:0≤p.sw∧p.sw≤7
 speed:1≤p.speed∧p.speed≤400
 nm:1≤p.macs.length∧p.macs.length≤2
 macs:∀ m,m∈p.macs→m.length=6∧IsB m∧grpM m=false∧m≠[0,0,0,0,0,0]
 a4:p.v4=⟨false,0,0⟩∨∃ n:Fin 15,p.v4=fourA (n.val:Int)
 a6:p.v6=⟨false,0,0⟩∨∃ n:Fin 15,p.v6=sixA (n.val:Int)
 aa:p.v4=⟨false,0,0⟩→p.v6≠⟨false,0,0⟩
theorem LO.eql_mac {o:Oper} {E:Operand→Option AV} {H:Hp} {f:Nat} {ty:TypeId} {x y:Operand} (a b:List Int) (ha:a.length=6) (hb:b.length=6) (ho:o.op=.binOp .eql 23 x y ty) (hx:E x=some (.agg (bytesC a))) (hy:E y=some (.agg (bytesC b))):LO Tryz.prog o E H f [] [] (.base (.bool (decide (a=b)))) H :=
 LO.eq_bases false (a.map (Value.int .u8)) (b.map (Value.int .u8)) ho hx hy (bytesC_bases a) (bytesC_bases b) (guard_run x y false (by kernel_rfl)) (eqMac_in 9998 ha hb)
theorem PrtOk.cases4 {p:Prt} (h:PrtOk p):validA p.v4.v6 p.v4.hi p.v4.lo=true∧p.v4.v6=false∧U64 p.v4.hi∧U64 p.v4.lo:=by
 have hz:=h.a4
 rcases hz with e|⟨n,e⟩<;>rw [e]
 ·exact ⟨rfl,rfl,by unfold U64;decide,by unfold U64;decide⟩
 ·have:=n.2
  refine ⟨?_,rfl,by unfold fourA U64;simp,by unfold fourA U64;dsimp only;omega⟩
  unfold validA fourA
  simp
  omega
set_option maxHeartbeats 1000000 in
theorem odd_any (p:Prt) (hp:PrtOk p):AFn Tryz.prog 171 0 [.agg (prtC p)] mt (.base (.bool false)) mt:=by
 refine AFn.eq Tryz.func171 rfl rfl (Nat.le_of_ble_eq_true rfl) ?_
 have hnm:=hp.nm
 have hmacs:=hp.macs
 have w1:=within_yes hp.id.1 hp.id.2
 have w2:=within_yes hp.sw.1 hp.sw.2
 have w3:=within_yes hp.speed.1 hp.speed.2
 have hv:=rvalid_any p.v4
 obtain ⟨c1,c2,_,_⟩:=hp.cases4
 rw [c1] at hv
 have z4:=zero_any p.v4
 have z6:=zero_any p.v6
 have hs:(zeroA p.v4=true∧zeroA p.v6=false∧p.v6.v6=true)∨(zeroA p.v4=false∧zeroA p.v6=true)∨(zeroA p.v4=false∧zeroA p.v6=false∧p.v6.v6=true):=by
  have f6:∀ n:Fin 15,zeroA (sixA (n.val:Int))=false∧(sixA (n.val:Int)).v6=true:=by decide
  have f4:∀ n:Fin 15,zeroA (fourA (n.val:Int))=false:=by decide
  rcases hp.a4 with e|⟨n,e⟩
  ·rcases hp.a6 with e6|⟨m,e6⟩
   ·exact absurd e6 (hp.aa e)
   ·rw [e,e6];exact .inl ⟨rfl,f6 m⟩
  ·rcases hp.a6 with e6|⟨m,e6⟩
   ·rw [e,e6];exact .inr (.inl ⟨f4 n,rfl⟩)
   ·rw [e,e6];exact .inr (.inr ⟨f4 n,f6 m⟩)
 refine Wq<|qW 0 2 rfl<|qC rfl<|qA rfl<|Nl<|Wq<|Wq<|qW 6 10 rfl<|qF rfl ty157 rfl<|qL rfl ty36 rfl<|qH rfl ty36<|qM rfl<|Nl<|Wb<|W.rename [(0,0)] 1 (T':=up (up (up (up mt 1 (some (.own 0 0))) 6 (some (.isl (macsC p.macs) p.macs.length))) 7 (some (.base (.int .i64 (p.macs.length:Int))))) 8 (some (.base (.int .i64 (0:Int))))) (H':=up mt 0 (some (prtC p))) (by decide) ?_ ?_ ?_
 ·exact aU (lR rfl) (aU (lR rfl) (aU (lR rfl) (aU (lI rfl) aM)))
 ·exact aU (kR rfl) aM
 refine W.loop_ind (α:=Nat) (fun x=>p.macs.length - x) 1 (fun x=>up (up (up (up mt 1 (some (.own 0 0))) 6 (some (.isl (macsC p.macs) p.macs.length))) 7 (some (.base (.int .i64 (p.macs.length:Int))))) 8 (some (.base (.int .i64 (x:Int))))) (fun x=>up mt 0 (some (prtC p))) (fun x=>x≤p.macs.length) 0 (show 0≤p.macs.length from Nat.zero_le _) ?_
 rintro i hIA ihA
 try (dsimp only at hIA)
 try dsimp only
 by_cases hc:i < p.macs.length
 ·have g1:decide ((i:Int) < (p.macs.length:Int))=true:=decide_eq_true (by omega)
  obtain ⟨m1,m2,m3,m4⟩:=hmacs _ (List.getElem_mem hc)
  have htk:=macs_tk (fun m hm=>(hmacs m hm).1) hc
  have hgr:=grpM_any p.macs[i] m1 m2
  rw [m3] at hgr
  have k1:decide (p.macs[i]=[0,0,0,0,0,0])=false:=decide_eq_false m4
  refine Wq<|qW 14 15 rfl<|qK rfl<|Nl<|Wq<|Wt rfl ‹_›<|Wu<|Wq<|Wb<|Wq<|qW 19 23 rfl<|qJ rfl rfl ty36 ty23 (by omega)<|Od rfl rfl (Lg rfl rfl ty23 rfl htk)<|qB rfl ty23<|On rfl rfl (Sr rfl rfl rfl rfl rfl ty23 ((bytesC_len _).trans m1) (by decide) (sp_all ((bytesC_len _).trans m1)))<|Nl ?_
  generalize p.macs[i]=mc at *
  refine Wq<|qW 27 34 rfl<|qG rfl ty23 rfl (bytes_tk m1)<|Od rfl rfl (C0 (fr:=[]) rfl rfl (hgr) fok23 (.cons rfl (.pure (bytesC_pure _)) .nil) rfl)<|qM rfl<|gG rfl rfl ty23 rfl (bytes_tk m1)<|qU rfl rfl rfl (LO.build_ar rfl ty23 ty5 .nil)<|qU rfl rfl rfl (LO.eql_mac mc [0,0,0,0,0,0] m1 rfl rfl rfl rfl)<|qP rfl rfl rfl<|Nl<|Wo rfl ‹_›<|Wu<|qW 43 45 rfl<|qZ rfl (iW _ (by omega))<|qM rfl<|Nl<|WL.rename [(0,0)] 1 (by decide) ?_ ?_ (ihA (i + 1) (show p.macs.length - (i + 1) < p.macs.length - i from by omega) (show (i + 1)≤p.macs.length from by omega))
  ·exact aU (lR rfl) (aU (lR rfl) (aU (lR rfl) (aU (lI rfl) aM)))
  ·exact aU (kR rfl) aM
 ·have g1:decide ((i:Int) < (p.macs.length:Int))=false:=decide_eq_false (by omega)
  refine Wq<|qW 14 15 rfl<|qK rfl<|Nl<|Wq<|Wo rfl ‹_›<|Wx ?_
  clear ihA
  rcases hs with ⟨s1,s2,s3⟩|⟨s1,s2⟩|⟨s1,s2,s3⟩
  all_goals
   rw [s1] at z4
   rw [s2] at z6
  ·
   have s4:(!p.v6.v6)=false:=by rw [s3];rfl
   refine Wq<|qW 49 99 rfl<|qF rfl ty157 rfl<|qL rfl ty3 rfl<|qY rfl (w1) fok168 rfl<|qO rfl<|qM rfl<|gF rfl rfl ty157 rfl<|gL rfl rfl ty3 rfl<|gY rfl rfl (w2) fok168 rfl<|gO rfl rfl<|qP rfl rfl rfl<|qM rfl<|gF rfl rfl ty157 rfl<|gL rfl rfl ty3 rfl<|gY rfl rfl (w3) fok168 rfl<|gO rfl rfl<|qP rfl rfl rfl<|qM rfl<|gF rfl rfl ty157 rfl<|gF rfl rfl ty54 rfl<|gL rfl rfl ty4 rfl<|qP rfl rfl rfl<|qM rfl<|gF rfl ‹_› ty157 rfl<|gG rfl ‹_› ty54 rfl (Tl rfl)<|gY rfl ‹_› (hv) fok125 rfl<|gO rfl ‹_›<|qP rfl ‹_› rfl<|qM rfl<|gF rfl rfl ty157 rfl<|gG rfl rfl ty54 rfl (Tl rfl)<|gY rfl rfl (z6) fok172 rfl<|gO rfl rfl<|gM rfl rfl<|gF rfl rfl ty157 rfl<|gF rfl rfl ty54 rfl<|gL rfl rfl ty4 rfl<|gO rfl rfl<|qU rfl rfl rfl (Pt rfl rfl rfl rfl)<|qP rfl rfl rfl<|qM rfl<|gF rfl ‹_› ty157 rfl<|gG rfl ‹_› ty54 rfl (Tl rfl)<|gY rfl ‹_› (z4) fok172 rfl<|gM rfl ‹_›<|gF rfl rfl ty157 rfl<|gG rfl rfl ty54 rfl (Tl rfl)<|gY rfl rfl (z6) fok172 rfl<|qU rfl ‹_› rfl (Pt rfl rfl rfl rfl)<|qP rfl ‹_› rfl<|qA rfl<|Nl<|Wz ⟨.inl rfl,_,mt,Rc (Rt rfl) (Rv),aM,?_⟩
   exact ⟨rfl,rfl⟩
  ·
   refine Wq<|qW 49 99 rfl<|qF rfl ty157 rfl<|qL rfl ty3 rfl<|qY rfl (w1) fok168 rfl<|qO rfl<|qM rfl<|gF rfl rfl ty157 rfl<|gL rfl rfl ty3 rfl<|gY rfl rfl (w2) fok168 rfl<|gO rfl rfl<|qP rfl rfl rfl<|qM rfl<|gF rfl rfl ty157 rfl<|gL rfl rfl ty3 rfl<|gY rfl rfl (w3) fok168 rfl<|gO rfl rfl<|qP rfl rfl rfl<|qM rfl<|gF rfl rfl ty157 rfl<|gF rfl rfl ty54 rfl<|gL rfl rfl ty4 rfl<|qP rfl rfl rfl<|qM rfl<|gF rfl ‹_› ty157 rfl<|gG rfl ‹_› ty54 rfl (Tl rfl)<|gY rfl ‹_› (hv) fok125 rfl<|gO rfl ‹_›<|qP rfl ‹_› rfl<|qM rfl<|gF rfl rfl ty157 rfl<|gG rfl rfl ty54 rfl (Tl rfl)<|gY rfl rfl (z6) fok172 rfl<|gO rfl rfl<|gM rfl rfl<|qD rfl rfl rfl<|qD rfl rfl rfl<|qD rfl rfl rfl<|qD rfl rfl rfl<|qU rfl rfl rfl (Pf0 rfl rfl rfl rfl)<|qP rfl rfl rfl<|qM rfl<|gF rfl rfl ty157 rfl<|gG rfl rfl ty54 rfl (Tl rfl)<|gY rfl rfl (z4) fok172 rfl<|gM rfl rfl<|qD rfl rfl rfl<|qD rfl rfl rfl<|qD rfl rfl rfl<|qU rfl rfl rfl (Pf0 rfl rfl rfl rfl)<|qP rfl rfl rfl<|qA rfl<|Nl<|Wz ⟨.inl rfl,_,mt,Rc (Rt rfl) (Rv),aM,?_⟩
   exact ⟨rfl,rfl⟩
  ·
   have s4:(!p.v6.v6)=false:=by rw [s3];rfl
   refine Wq<|qW 49 99 rfl<|qF rfl ty157 rfl<|qL rfl ty3 rfl<|qY rfl (w1) fok168 rfl<|qO rfl<|qM rfl<|gF rfl rfl ty157 rfl<|gL rfl rfl ty3 rfl<|gY rfl rfl (w2) fok168 rfl<|gO rfl rfl<|qP rfl rfl rfl<|qM rfl<|gF rfl rfl ty157 rfl<|gL rfl rfl ty3 rfl<|gY rfl rfl (w3) fok168 rfl<|gO rfl rfl<|qP rfl rfl rfl<|qM rfl<|gF rfl rfl ty157 rfl<|gF rfl rfl ty54 rfl<|gL rfl rfl ty4 rfl<|qP rfl rfl rfl<|qM rfl<|gF rfl ‹_› ty157 rfl<|gG rfl ‹_› ty54 rfl (Tl rfl)<|gY rfl ‹_› (hv) fok125 rfl<|gO rfl ‹_›<|qP rfl ‹_› rfl<|qM rfl<|gF rfl rfl ty157 rfl<|gG rfl rfl ty54 rfl (Tl rfl)<|gY rfl rfl (z6) fok172 rfl<|gO rfl rfl<|gM rfl rfl<|gF rfl rfl ty157 rfl<|gF rfl rfl ty54 rfl<|gL rfl rfl ty4 rfl<|gO rfl rfl<|qU rfl rfl rfl (Pt rfl rfl rfl rfl)<|qP rfl rfl rfl<|qM rfl<|gF rfl ‹_› ty157 rfl<|gG rfl ‹_› ty54 rfl (Tl rfl)<|gY rfl ‹_› (z4) fok172 rfl<|gM rfl ‹_›<|qD rfl rfl rfl<|qD rfl rfl rfl<|qD rfl rfl rfl<|qU rfl ‹_› rfl (Pf0 rfl rfl rfl rfl)<|qP rfl ‹_› rfl<|qA rfl<|Nl<|Wz ⟨.inl rfl,_,mt,Rc (Rt rfl) (Rv),aM,?_⟩
   exact ⟨rfl,rfl⟩
def emptyS:ByteArray:=⟨#[]⟩
def asA:ByteArray:=⟨#[65,83,45,65]⟩
def asB:ByteArray:=⟨#[65,83,45,66]⟩
def nameB (s:ByteArray):Bool:=decide (1≤s.size) && decide (s.size≤32) && (List.range s.size).all fun i=>match s[i]? with
 | some b=>decide ((97≤b.toNat∧b.toNat≤122)∨(65≤b.toNat∧b.toNat≤90)∨(48≤b.toNat∧b.toNat≤57)∨b.toNat=45∨b.toNat=58)
 | none=>true
theorem NameOk.of {s:ByteArray} (h:nameB s=true):NameOk s:=by
 unfold nameB at h
 simp only [Bool.and_eq_true,decide_eq_true_eq,List.all_eq_true,List.mem_range] at h
 refine ⟨h.1.1,h.1.2,fun i b hb=>?_⟩
 have hi:i < s.size:=by
  rcases Nat.lt_or_ge i s.size with h1|h1
  ·exact h1
  ·rw [getElem?_neg s i (by omega)] at hb;cases hb
 have:=h.2 i hi
 rw [hb] at this
 simp only [decide_eq_true_eq] at this
 unfold okC
 omega
theorem asA_ok:NameOk asA:=.of (by decide +kernel)
theorem asB_ok:NameOk asB:=.of (by decide +kernel)
structure MemOk (m:Mem):Prop where
 asn:1≤m.asn∧m.asn≤4294967295
 name:NameOk m.name
 set:m.set=emptyS∨m.set=asA∨m.set=asB
 max4:0≤m.max4∧m.max4≤512
 max6:0≤m.max6∧m.max6≤512
 np:1≤m.ports.length∧m.ports.length≤4
 ports:∀ p,p∈m.ports→PrtOk p
structure DbOk (d:Db):Prop where
 l4:d.lan4=lan4
 l6:d.lan6=lan6
 ns:d.servers.length≤4
 nm:d.members.length≤32
 mem:∀ m,m∈d.servers++d.members→MemOk m
set_option maxHeartbeats 1000000 in
theorem many_any (d:Db) (hd:DbOk d):AFn Tryz.prog 131 0 [.agg (dbC d)] mt (.base (.bool false)) mt:=by
 refine AFn.eq Tryz.func131 rfl rfl (Nat.le_of_ble_eq_true rfl) ?_
 have h4:=hd.ns
 have h32:=hd.nm
 have hmem:=hd.mem
 have hall:=all_any d (by omega) (by omega)
 obtain ⟨A,hA⟩:∃ A,A=d.servers++d.members:=⟨_,rfl⟩
 rw [← hA] at hall hmem
 have hAl:A.length≤2000:=by rw [hA,List.length_append];omega
 have g4:decide ((d.servers.length:Int) > 4)=false:=decide_eq_false (by omega)
 have g32:decide ((d.members.length:Int) > 32)=false:=decide_eq_false (by omega)
 refine Wq<|qW 0 2 rfl<|qC rfl<|qA rfl<|Nl<|Wq<|Wq<|qW 6 16 rfl<|qF rfl ty105 rfl<|qL rfl ty103 rfl<|qH rfl ty103<|qGt rfl<|qM rfl<|gF rfl ‹_› ty105 rfl<|gL rfl ‹_› ty103 rfl<|gH rfl ‹_› ty103<|gGt rfl ‹_›<|qP rfl ‹_› rfl<|Nl<|Wo rfl ‹_›<|Wu<|Wq<|Wq<|qW 25 29 rfl<|qG rfl ty105 rfl (Tl rfl)<|qY rfl (hall) fok135 rfl<|qH rfl ty103<|qM rfl<|Nl<|Wb<|W.rename [] 0 (T':=up (up (up mt 18 (some (.isl (memsC A) A.length))) 19 (some (.base (.int .i64 (A.length:Int))))) 20 (some (.base (.int .i64 (0:Int))))) (H':=mt) (by decide) ?_ ?_ ?_
 ·exact aU (lR rfl) (aU (lR rfl) (aU (lR rfl) aM))
 ·exact aM
 refine W.loop_ind (α:=Nat) (fun x=>A.length - x) 0 (fun x=>up (up (up mt 18 (some (.isl (memsC A) A.length))) 19 (some (.base (.int .i64 (A.length:Int))))) 20 (some (.base (.int .i64 (x:Int))))) (fun x=>mt) (fun x=>x≤A.length) 0 (show 0≤A.length from Nat.zero_le _) ?_
 rintro i hIA ihA
 try (dsimp only at hIA)
 try dsimp only
 by_cases hc:i < A.length
 ·have g1:decide ((i:Int) < (A.length:Int))=true:=decide_eq_true (by omega)
  have hm:=hmem _ (List.getElem_mem hc)
  refine Wq<|qW 33 34 rfl<|qK rfl<|Nl<|Wq<|Wt rfl ‹_›<|Wu<|Wq<|Wb<|Wq<|qW 38 42 rfl<|qJ rfl rfl ty103 ty150 (by omega)<|Od rfl rfl (Lg rfl rfl ty150 rfl (mems_tk hc))<|qB rfl ty150<|qS rfl ty150 (Sl rfl) rfl<|Nl ?_
  generalize A[i]=m at *
  have hnp:=hm.np
  have w1:=within_yes (n:=(m.ports.length:Int)) (l:=1) (h:=4) (by omega) (by omega)
  have hps:=hm.ports
  refine Wq<|Wq<|qW 46 51 rfl<|qF rfl ty150 rfl<|qL rfl ty148 rfl<|qH rfl ty148<|qY rfl (w1) fok168 rfl<|qO rfl<|Nl<|Wo rfl rfl<|Wu<|Wq<|qW 60 64 rfl<|qF rfl ty150 rfl<|qL rfl ty148 rfl<|qH rfl ty148<|qM rfl<|Nl ?_
  generalize m.ports=ps at *
  refine Wb<|W.rename [] 0 (T':=up (up (up (up (up (up mt 18 (some (.isl (memsC A) A.length))) 19 (some (.base (.int .i64 (A.length:Int))))) 20 (some (.base (.int .i64 (i:Int))))) 30 (some (.isl (prtsC ps) ps.length))) 31 (some (.base (.int .i64 (ps.length:Int))))) 32 (some (.base (.int .i64 (0:Int))))) (H':=mt) (by decide) ?_ ?_ ?_
  ·exact aU (lR rfl) (aU (lR rfl) (aU (lR rfl) (aU (lR rfl) (aU (lR rfl) (aU (lR rfl) aM)))))
  ·exact aM
  refine W.loop_ind (α:=Nat) (fun x=>ps.length - x) 0 (fun x=>up (up (up (up (up (up mt 18 (some (.isl (memsC A) A.length))) 19 (some (.base (.int .i64 (A.length:Int))))) 20 (some (.base (.int .i64 (i:Int))))) 30 (some (.isl (prtsC ps) ps.length))) 31 (some (.base (.int .i64 (ps.length:Int))))) 32 (some (.base (.int .i64 (x:Int))))) (fun x=>mt) (fun x=>x≤ps.length) 0 (show 0≤ps.length from Nat.zero_le _) ?_
  rintro j hIB ihB
  try (dsimp only at hIB)
  try dsimp only
  by_cases hc2:j < ps.length
  ·have g2:decide ((j:Int) < (ps.length:Int))=true:=decide_eq_true (by omega)
   have hp:=(hps _ (List.getElem_mem hc2)).nm
   refine Wq<|qW 68 69 rfl<|qK rfl<|Nl<|Wq<|Wt rfl ‹_›<|Wu<|Wq<|Wb<|Wq<|qW 73 77 rfl<|qJ rfl rfl ty148 ty157 (by omega)<|Od rfl rfl (Lg rfl rfl ty157 rfl (prts_tk hc2))<|qB rfl ty157<|qS rfl ty157 (Sl rfl) rfl<|Nl ?_
   generalize ps[j]=p at *
   have w2:=within_yes (n:=(p.macs.length:Int)) (l:=1) (h:=2) (by omega) (by omega)
   refine Wq<|qW 81 86 rfl<|qF rfl ty157 rfl<|qL rfl ty36 rfl<|qH rfl ty36<|qY rfl (w2) fok168 rfl<|qO rfl<|Nl<|Wo rfl rfl<|Wu<|qW 95 97 rfl<|qZ rfl (iW _ (by omega))<|qM rfl<|Nl<|WL.rename [] 0 (by decide) ?_ ?_ (ihB (j + 1) (show ps.length - (j + 1) < ps.length - j from by omega) (show (j + 1)≤ps.length from by omega))
   ·exact aU (lR rfl) (aU (lR rfl) (aU (lR rfl) (aU (lR rfl) (aU (lR rfl) (aU (lR rfl) aM)))))
   ·exact aM
  ·have g2:decide ((j:Int) < (ps.length:Int))=false:=decide_eq_false (by omega)
   refine Wq<|qW 68 69 rfl<|qK rfl<|Nl<|Wq<|Wo rfl ‹_›<|Wx ?_
   clear ihB
   refine qW 101 103 rfl<|qZ rfl (iW _ (by omega))<|qM rfl<|Nl<|WL.rename [] 0 (by decide) ?_ ?_ (ihA (i + 1) (show A.length - (i + 1) < A.length - i from by omega) (show (i + 1)≤A.length from by omega))
   ·exact aU (lR rfl) (aU (lR rfl) (aU (lR rfl) aM))
   ·exact aM
 ·have g1:decide ((i:Int) < (A.length:Int))=false:=decide_eq_false (by omega)
  refine Wq<|qW 33 34 rfl<|qK rfl<|Nl<|Wq<|Wo rfl ‹_›<|Wx<|Wq<|qW 107 108 rfl<|qA rfl<|Nl<|Wz ⟨.inl rfl,_,mt,Rc (Rt rfl) (Rv),aM,?_⟩
  exact ⟨rfl,rfl⟩
theorem lan4V:AFn Tryz.prog 169 0 [.agg (preC lan4)] mt (.base (.bool true)) mt:=by
 have:=pvalidX_any lan4 24 rfl (by decide) (by unfold U64;decide) (by unfold U64;decide) (by decide)
 rwa [lan_ok.1] at this
theorem lan6V:AFn Tryz.prog 169 0 [.agg (preC lan6)] mt (.base (.bool true)) mt:=by
 have:=pvalidX_any lan6 64 rfl (by decide) (by unfold U64;decide) (by unfold U64;decide) (by decide)
 rwa [lan_ok.2] at this
set_option maxHeartbeats 2000000 in
theorem wrong_any (d:Db) (hd:DbOk d):AFn Tryz.prog 132 0 [.agg (dbC d)] mt (.base (.bool false)) mt:=by
 refine AFn.eq Tryz.func132 rfl rfl (Nat.le_of_ble_eq_true rfl) ?_
 have h4:=hd.ns
 have h32:=hd.nm
 have hmem:=hd.mem
 have e4:=hd.l4
 have e6:=hd.l6
 have hall:=all_any d (by omega) (by omega)
 obtain ⟨A,hA⟩:∃ A,A=d.servers++d.members:=⟨_,rfl⟩
 rw [← hA] at hall hmem
 have hAl:A.length≤2000:=by rw [hA,List.length_append];omega
 clear hd hA
 obtain ⟨l4,l6,sv,mb⟩:=d
 dsimp only at e4 e6
 subst e4 e6
 have v4:=lan4V
 have v6:=lan6V
 have w4:=within_yes (n:=24) (l:=8) (h:=30) (by decide) (by decide)
 have w6:=within_yes (n:=64) (l:=32) (h:=64) (by decide) (by decide)
 refine Wq<|qW 0 2 rfl<|qC rfl<|qA rfl<|Nl<|Wq<|Wq<|qW 6 43 rfl<|qF rfl ty105 rfl<|qG rfl ty56 rfl (Tl rfl)<|qY rfl (v4) fok169 rfl<|qO rfl<|qM rfl<|gF rfl rfl ty105 rfl<|gF rfl rfl ty56 rfl<|gF rfl rfl ty54 rfl<|gL rfl rfl ty4 rfl<|qP rfl rfl rfl<|qM rfl<|gF rfl rfl ty105 rfl<|gF rfl rfl ty56 rfl<|gL rfl rfl ty3 rfl<|gY rfl rfl (w4) fok168 rfl<|gO rfl rfl<|qP rfl rfl rfl<|qM rfl<|gF rfl rfl ty105 rfl<|gG rfl rfl ty56 rfl (Tl rfl)<|gY rfl rfl (v6) fok169 rfl<|gO rfl rfl<|qP rfl rfl rfl<|qM rfl<|gF rfl rfl ty105 rfl<|gF rfl rfl ty56 rfl<|gF rfl rfl ty54 rfl<|gL rfl rfl ty4 rfl<|gO rfl rfl<|qP rfl rfl rfl<|qM rfl<|gF rfl rfl ty105 rfl<|gF rfl rfl ty56 rfl<|gL rfl rfl ty3 rfl<|gY rfl rfl (w6) fok168 rfl<|gO rfl rfl<|qP rfl rfl rfl<|Nl<|Wo rfl rfl<|Wu<|Wq<|Wq<|qW 52 56 rfl<|qG rfl ty105 rfl (Tl rfl)<|qY rfl (hall) fok135 rfl<|qH rfl ty103<|qM rfl<|Nl<|Wb<|W.rename [] 0 (T':=up (up (up mt 45 (some (.isl (memsC A) A.length))) 46 (some (.base (.int .i64 (A.length:Int))))) 47 (some (.base (.int .i64 (0:Int))))) (H':=mt) (by decide) ?_ ?_ ?_
 ·exact aU (lR rfl) (aU (lR rfl) (aU (lR rfl) aM))
 ·exact aM
 refine W.loop_ind (α:=Nat) (fun x=>A.length - x) 0 (fun x=>up (up (up mt 45 (some (.isl (memsC A) A.length))) 46 (some (.base (.int .i64 (A.length:Int))))) 47 (some (.base (.int .i64 (x:Int))))) (fun x=>mt) (fun x=>x≤A.length) 0 (show 0≤A.length from Nat.zero_le _) ?_
 rintro i hIA ihA
 try (dsimp only at hIA)
 try dsimp only
 by_cases hc:i < A.length
 ·have g1:decide ((i:Int) < (A.length:Int))=true:=decide_eq_true (by omega)
  have hm:=hmem _ (List.getElem_mem hc)
  refine Wq<|qW 60 61 rfl<|qK rfl<|Nl<|Wq<|Wt rfl ‹_›<|Wu<|Wq<|Wb<|Wq<|qW 65 69 rfl<|qJ rfl rfl ty103 ty150 (by omega)<|Od rfl rfl (Lg rfl rfl ty150 rfl (mems_tk hc))<|qB rfl ty150<|qS rfl ty150 (Sl rfl) rfl<|Nl ?_
  generalize A[i]=m at *
  have hnp:=hm.np
  have w1:=within_yes hm.asn.1 hm.asn.2
  have w2:=within_yes hm.max4.1 hm.max4.2
  have w3:=within_yes hm.max6.1 hm.max6.2
  have hps:=hm.ports
  have hna:=name_any _ hm.name
  refine Wq<|W.joinK (α:=Unit) 1 (fun x=>[(4,.own 0 0)]) (fun x=>up mt 0 (some (memC m))) (fun x=>True) (.cons (t:=45) rfl (by exact .inl rfl) (.cons (t:=46) rfl (by exact .inl rfl) (.cons (t:=47) rfl (by exact .inl rfl) .nil))) ?_ ?_
  rotate_left
  rintro q hIJ
  try (dsimp only at hIJ)
  try dsimp only [joinT,baseT,List.cons_append,List.nil_append]
  rotate_right
  ·
   obtain ⟨asn,name,set,x4,x6,ps⟩:=m
   rcases hm.set with e|e|e
   all_goals
    dsimp only at e
    subst e
   ·
    have k1:(!(emptyS.toList == (⟨#[]⟩:ByteArray).toList))=false:=by decide +kernel
    have k2:(emptyS.toList == (⟨#[45]⟩:ByteArray).toList)=false:=by decide +kernel
    refine Wq<|qW 73 111 rfl<|qF rfl ty150 rfl<|qL rfl ty3 rfl<|qY rfl (w1) fok168 rfl<|qO rfl<|qM rfl<|gF rfl rfl ty150 rfl<|gL rfl rfl ty9 rfl<|gY rfl rfl (hna) fok170 rfl<|gO rfl rfl<|qP rfl rfl rfl<|qM rfl<|gF rfl rfl ty150 rfl<|gL rfl rfl ty9 rfl<|qU rfl rfl rfl (LO.neq_str rfl rfl rfl)<|gM rfl rfl<|qD rfl ‹_› rfl<|qD rfl ‹_› rfl<|qD rfl ‹_› rfl<|qD rfl ‹_› rfl<|qU rfl rfl rfl (Pf0 rfl rfl ‹_› rfl)<|qP rfl rfl rfl<|qM rfl<|gF rfl rfl ty150 rfl<|gL rfl rfl ty9 rfl<|qU rfl rfl rfl (LO.eql_str rfl rfl rfl)<|qP rfl rfl rfl<|qM rfl<|gF rfl ‹_› ty150 rfl<|gL rfl ‹_› ty3 rfl<|gY rfl ‹_› (w2) fok168 rfl<|gO rfl ‹_›<|qP rfl ‹_› rfl<|qM rfl<|gF rfl rfl ty150 rfl<|gL rfl rfl ty3 rfl<|gY rfl rfl (w3) fok168 rfl<|gO rfl rfl<|qP rfl rfl rfl<|Nl<|Wo rfl rfl<|Wu ?_
    intro yJ KJ hJ
    refine W.renameJ [(0,67)] 1 (by decide) ?_ ?_ (hJ (()) (show True from trivial))
    ·exact lC (lI rfl) (lC (lR rfl) (lC (lR rfl) (lC (lR rfl) lN)))
    ·exact aU (kR rfl) aM
   ·
    have hset:=name_any _ asA_ok
    have k1:(!(asA.toList == (⟨#[]⟩:ByteArray).toList))=true:=by decide +kernel
    have k2:(asA.toList == (⟨#[45]⟩:ByteArray).toList)=false:=by decide +kernel
    refine Wq<|qW 73 111 rfl<|qF rfl ty150 rfl<|qL rfl ty3 rfl<|qY rfl (w1) fok168 rfl<|qO rfl<|qM rfl<|gF rfl rfl ty150 rfl<|gL rfl rfl ty9 rfl<|gY rfl rfl (hna) fok170 rfl<|gO rfl rfl<|qP rfl rfl rfl<|qM rfl<|gF rfl rfl ty150 rfl<|gL rfl rfl ty9 rfl<|qU rfl rfl rfl (LO.neq_str rfl rfl rfl)<|gM rfl rfl<|gF rfl ‹_› ty150 rfl<|gL rfl ‹_› ty9 rfl<|gY rfl ‹_› (hset) fok170 rfl<|gO rfl ‹_›<|qU rfl rfl rfl (Pt rfl rfl ‹_› rfl)<|qP rfl rfl rfl<|qM rfl<|gF rfl rfl ty150 rfl<|gL rfl rfl ty9 rfl<|qU rfl rfl rfl (LO.eql_str rfl rfl rfl)<|qP rfl rfl rfl<|qM rfl<|gF rfl ‹_› ty150 rfl<|gL rfl ‹_› ty3 rfl<|gY rfl ‹_› (w2) fok168 rfl<|gO rfl ‹_›<|qP rfl ‹_› rfl<|qM rfl<|gF rfl rfl ty150 rfl<|gL rfl rfl ty3 rfl<|gY rfl rfl (w3) fok168 rfl<|gO rfl rfl<|qP rfl rfl rfl<|Nl<|Wo rfl rfl<|Wu ?_
    intro yJ KJ hJ
    refine W.renameJ [(0,67)] 1 (by decide) ?_ ?_ (hJ (()) (show True from trivial))
    ·exact lC (lI rfl) (lC (lR rfl) (lC (lR rfl) (lC (lR rfl) lN)))
    ·exact aU (kR rfl) aM
   ·
    have hset:=name_any _ asB_ok
    have k1:(!(asB.toList == (⟨#[]⟩:ByteArray).toList))=true:=by decide +kernel
    have k2:(asB.toList == (⟨#[45]⟩:ByteArray).toList)=false:=by decide +kernel
    refine Wq<|qW 73 111 rfl<|qF rfl ty150 rfl<|qL rfl ty3 rfl<|qY rfl (w1) fok168 rfl<|qO rfl<|qM rfl<|gF rfl rfl ty150 rfl<|gL rfl rfl ty9 rfl<|gY rfl rfl (hna) fok170 rfl<|gO rfl rfl<|qP rfl rfl rfl<|qM rfl<|gF rfl rfl ty150 rfl<|gL rfl rfl ty9 rfl<|qU rfl rfl rfl (LO.neq_str rfl rfl rfl)<|gM rfl rfl<|gF rfl ‹_› ty150 rfl<|gL rfl ‹_› ty9 rfl<|gY rfl ‹_› (hset) fok170 rfl<|gO rfl ‹_›<|qU rfl rfl rfl (Pt rfl rfl ‹_› rfl)<|qP rfl rfl rfl<|qM rfl<|gF rfl rfl ty150 rfl<|gL rfl rfl ty9 rfl<|qU rfl rfl rfl (LO.eql_str rfl rfl rfl)<|qP rfl rfl rfl<|qM rfl<|gF rfl ‹_› ty150 rfl<|gL rfl ‹_› ty3 rfl<|gY rfl ‹_› (w2) fok168 rfl<|gO rfl ‹_›<|qP rfl ‹_› rfl<|qM rfl<|gF rfl rfl ty150 rfl<|gL rfl rfl ty3 rfl<|gY rfl rfl (w3) fok168 rfl<|gO rfl rfl<|qP rfl rfl rfl<|Nl<|Wo rfl rfl<|Wu ?_
    intro yJ KJ hJ
    refine W.renameJ [(0,67)] 1 (by decide) ?_ ?_ (hJ (()) (show True from trivial))
    ·exact lC (lI rfl) (lC (lR rfl) (lC (lR rfl) (lC (lR rfl) lN)))
    ·exact aU (kR rfl) aM
  refine Wq<|qW 120 124 rfl<|qF rfl ty150 rfl<|qL rfl ty148 rfl<|qH rfl ty148<|qM rfl<|Nl ?_
  generalize m.ports=ps at *
  refine Wb<|W.rename [] 0 (T':=up (up (up (up (up (up mt 45 (some (.isl (memsC A) A.length))) 46 (some (.base (.int .i64 (A.length:Int))))) 47 (some (.base (.int .i64 (i:Int))))) 90 (some (.isl (prtsC ps) ps.length))) 91 (some (.base (.int .i64 (ps.length:Int))))) 92 (some (.base (.int .i64 (0:Int))))) (H':=mt) (by decide) ?_ ?_ ?_
  ·exact aU (lR rfl) (aU (lR rfl) (aU (lR rfl) (aU (lR rfl) (aU (lR rfl) (aU (lR rfl) aM)))))
  ·exact aM
  refine W.loop_ind (α:=Nat) (fun x=>ps.length - x) 0 (fun x=>up (up (up (up (up (up mt 45 (some (.isl (memsC A) A.length))) 46 (some (.base (.int .i64 (A.length:Int))))) 47 (some (.base (.int .i64 (i:Int))))) 90 (some (.isl (prtsC ps) ps.length))) 91 (some (.base (.int .i64 (ps.length:Int))))) 92 (some (.base (.int .i64 (x:Int))))) (fun x=>mt) (fun x=>x≤ps.length) 0 (show 0≤ps.length from Nat.zero_le _) ?_
  rintro j hIB ihB
  try (dsimp only at hIB)
  try dsimp only
  by_cases hc2:j < ps.length
  ·have g2:decide ((j:Int) < (ps.length:Int))=true:=decide_eq_true (by omega)
   have hodd:=odd_any _ (hps _ (List.getElem_mem hc2))
   refine Wq<|qW 128 129 rfl<|qK rfl<|Nl<|Wq<|Wt rfl ‹_›<|Wu<|Wq<|Wb<|Wq<|qW 133 137 rfl<|qJ rfl rfl ty148 ty157 (by omega)<|Od rfl rfl (Lg rfl rfl ty157 rfl (prts_tk hc2))<|qB rfl ty157<|qS rfl ty157 (Sl rfl) rfl<|Nl ?_
   generalize ps[j]=p at *
   refine Wq<|qW 141 143 rfl<|qG rfl ty157 rfl (Tl rfl)<|qY rfl (hodd) fok171 rfl<|Nl<|Wo rfl rfl<|Wu<|qW 152 154 rfl<|qZ rfl (iW _ (by omega))<|qM rfl<|Nl<|WL.rename [] 0 (by decide) ?_ ?_ (ihB (j + 1) (show ps.length - (j + 1) < ps.length - j from by omega) (show (j + 1)≤ps.length from by omega))
   ·exact aU (lR rfl) (aU (lR rfl) (aU (lR rfl) (aU (lR rfl) (aU (lR rfl) (aU (lR rfl) aM)))))
   ·exact aM
  ·have g2:decide ((j:Int) < (ps.length:Int))=false:=decide_eq_false (by omega)
   refine Wq<|qW 128 129 rfl<|qK rfl<|Nl<|Wq<|Wo rfl ‹_›<|Wx ?_
   clear ihB
   refine qW 158 160 rfl<|qZ rfl (iW _ (by omega))<|qM rfl<|Nl<|WL.rename [] 0 (by decide) ?_ ?_ (ihA (i + 1) (show A.length - (i + 1) < A.length - i from by omega) (show (i + 1)≤A.length from by omega))
   ·exact aU (lR rfl) (aU (lR rfl) (aU (lR rfl) aM))
   ·exact aM
 ·have g1:decide ((i:Int) < (A.length:Int))=false:=decide_eq_false (by omega)
  refine Wq<|qW 60 61 rfl<|qK rfl<|Nl<|Wq<|Wo rfl ‹_›<|Wx<|Wq<|qW 164 165 rfl<|qA rfl<|Nl<|Wz ⟨.inl rfl,_,mt,Rc (Rt rfl) (Rv),aM,?_⟩
  exact ⟨rfl,rfl⟩
theorem u64_four (n:Fin 15):validA (fourA (n.val:Int)).v6 (fourA (n.val:Int)).hi (fourA (n.val:Int)).lo=true∧U64 (fourA (n.val:Int)).hi∧U64 (fourA (n.val:Int)).lo:=by
 have:=n.2
 unfold validA fourA U64
 simp
 omega
theorem u64_six (n:Fin 15):validA (sixA (n.val:Int)).v6 (sixA (n.val:Int)).hi (sixA (n.val:Int)).lo=true∧U64 (sixA (n.val:Int)).hi∧U64 (sixA (n.val:Int)).lo:=by
 have:=n.2
 unfold validA sixA U64
 simp
 omega
theorem LO.eql_ad_b {o:Oper} {E:Operand→Option AV} {H:Hp} {f:Nat} {ty:TypeId} {x y:Operand} {r:Bool} (a b:Ad) (h:eqA a b=r) (ho:o.op=.binOp .eql 54 x y ty) (hx:E x=some (.agg (adC a))) (hy:E y=some (.agg (adC b))):LO Tryz.prog o E H f [] [] (.base (.bool r)) H:=h ▸ LO.eql_ad a b ho hx hy
set_option maxHeartbeats 2000000 in
theorem outside_any (d:Db) (hd:DbOk d):AFn Tryz.prog 133 0 [.agg (dbC d)] mt (.base (.bool false)) mt:=by
 refine AFn.eq Tryz.func133 rfl rfl (Nat.le_of_ble_eq_true rfl) ?_
 have h4:=hd.ns
 have h32:=hd.nm
 have hmem:=hd.mem
 have e4:=hd.l4
 have e6:=hd.l6
 have hall:=all_any d (by omega) (by omega)
 obtain ⟨A,hA⟩:∃ A,A=d.servers++d.members:=⟨_,rfl⟩
 rw [← hA] at hall hmem
 have hAl:A.length≤2000:=by rw [hA,List.length_append];omega
 clear hd hA
 obtain ⟨l4,l6,sv,mb⟩:=d
 dsimp only at e4 e6
 subst e4 e6
 have hlast:=last_any lan4 24 rfl (by decide) (by unfold U64;decide) (by unfold U64;decide) (by decide)
 refine Wq<|qW 0 2 rfl<|qC rfl<|qA rfl<|Nl<|Wq<|Wq<|qW 6 10 rfl<|qG rfl ty105 rfl (Tl rfl)<|qY rfl (hall) fok135 rfl<|qH rfl ty103<|qM rfl<|Nl<|Wb<|W.rename [(0,0)] 1 (T':=up (up (up (up mt 1 (some (.own 0 0))) 8 (some (.isl (memsC A) A.length))) 9 (some (.base (.int .i64 (A.length:Int))))) 10 (some (.base (.int .i64 (0:Int))))) (H':=up mt 0 (some (dbC ⟨lan4,lan6,sv,mb⟩))) (by decide) ?_ ?_ ?_
 ·exact aU (lR rfl) (aU (lR rfl) (aU (lR rfl) (aU (lI rfl) aM)))
 ·exact aU (kR rfl) aM
 refine W.loop_ind (α:=Nat) (fun x=>A.length - x) 1 (fun x=>up (up (up (up mt 1 (some (.own 0 0))) 8 (some (.isl (memsC A) A.length))) 9 (some (.base (.int .i64 (A.length:Int))))) 10 (some (.base (.int .i64 (x:Int))))) (fun x=>up mt 0 (some (dbC ⟨lan4,lan6,sv,mb⟩))) (fun x=>x≤A.length) 0 (show 0≤A.length from Nat.zero_le _) ?_
 rintro i hIA ihA
 try (dsimp only at hIA)
 try dsimp only
 by_cases hc:i < A.length
 ·have g1:decide ((i:Int) < (A.length:Int))=true:=decide_eq_true (by omega)
  have hm:=hmem _ (List.getElem_mem hc)
  refine Wq<|qW 14 15 rfl<|qK rfl<|Nl<|Wq<|Wt rfl ‹_›<|Wu<|Wq<|Wb<|Wq<|qW 19 23 rfl<|qJ rfl rfl ty103 ty150 (by omega)<|Od rfl rfl (Lg rfl rfl ty150 rfl (mems_tk hc))<|qB rfl ty150<|qS rfl ty150 (Sl rfl) rfl<|Nl ?_
  generalize A[i]=m at *
  have hnp:=hm.np
  have hps:=hm.ports
  refine Wq<|qW 27 31 rfl<|qF rfl ty150 rfl<|qL rfl ty148 rfl<|qH rfl ty148<|qM rfl<|Nl ?_
  generalize m.ports=ps at *
  refine Wb<|W.rename [(0,0)] 1 (T':=up (up (up (up (up (up (up mt 1 (some (.own 0 0))) 8 (some (.isl (memsC A) A.length))) 9 (some (.base (.int .i64 (A.length:Int))))) 10 (some (.base (.int .i64 (i:Int))))) 15 (some (.isl (prtsC ps) ps.length))) 16 (some (.base (.int .i64 (ps.length:Int))))) 17 (some (.base (.int .i64 (0:Int))))) (H':=up mt 0 (some (dbC ⟨lan4,lan6,sv,mb⟩))) (by decide) ?_ ?_ ?_
  ·exact aU (lR rfl) (aU (lR rfl) (aU (lR rfl) (aU (lR rfl) (aU (lR rfl) (aU (lR rfl) (aU (lI rfl) aM))))))
  ·exact aU (kR rfl) aM
  refine W.loop_ind (α:=Nat) (fun x=>ps.length - x) 1 (fun x=>up (up (up (up (up (up (up mt 1 (some (.own 0 0))) 8 (some (.isl (memsC A) A.length))) 9 (some (.base (.int .i64 (A.length:Int))))) 10 (some (.base (.int .i64 (i:Int))))) 15 (some (.isl (prtsC ps) ps.length))) 16 (some (.base (.int .i64 (ps.length:Int))))) 17 (some (.base (.int .i64 (x:Int))))) (fun x=>up mt 0 (some (dbC ⟨lan4,lan6,sv,mb⟩))) (fun x=>x≤ps.length) 0 (show 0≤ps.length from Nat.zero_le _) ?_
  rintro j hIB ihB
  try (dsimp only at hIB)
  try dsimp only
  by_cases hc2:j < ps.length
  ·have g2:decide ((j:Int) < (ps.length:Int))=true:=decide_eq_true (by omega)
   have hp:=hps _ (List.getElem_mem hc2)
   refine Wq<|qW 35 36 rfl<|qK rfl<|Nl<|Wq<|Wt rfl ‹_›<|Wu<|Wq<|Wb<|Wq<|qW 40 44 rfl<|qJ rfl rfl ty148 ty157 (by omega)<|Od rfl rfl (Lg rfl rfl ty157 rfl (prts_tk hc2))<|qB rfl ty157<|qS rfl ty157 (Sl rfl) rfl<|Nl ?_
   generalize ps[j]=p at *
   have z4:=zero_any p.v4
   have z6:=zero_any p.v6
   obtain ⟨id,sw,sp,macs,v4,v6⟩:=p
   have a4:=hp.a4
   have a6:=hp.a6
   clear hp
   dsimp only at a4 a6 z4 z6
   refine Wq<|W.joinK (α:=Unit) 2 (fun x=>[(1,.own 0 0),(6,.own 1 0)]) (fun x=>up (up mt 0 (some (dbC ⟨lan4,lan6,sv,mb⟩))) 1 (some (prtC ⟨id,sw,sp,macs,v4,v6⟩))) (fun x=>True) (.cons (t:=8) rfl (by exact .inl rfl) (.cons (t:=9) rfl (by exact .inl rfl) (.cons (t:=10) rfl (by exact .inl rfl) (.cons (t:=15) rfl (by exact .inl rfl) (.cons (t:=16) rfl (by exact .inl rfl) (.cons (t:=17) rfl (by exact .inl rfl) .nil)))))) ?_ ?_
   rotate_left
   rintro q hIJ
   try (dsimp only at hIJ)
   try dsimp only [joinT,baseT,List.cons_append,List.nil_append]
   rotate_right
   ·
    rcases a4 with e|⟨n,e⟩
    ·
     subst e
     rw [show zeroA ⟨false,0,0⟩=true from rfl] at z4
     refine Wq<|Wd 48 76 (by decide) rfl mixed rfl<|qF rfl ty157 rfl<|qG rfl ty54 rfl (Tl rfl)<|qY rfl (z4) fok172 rfl<|qO rfl<|qM rfl<|qD rfl rfl rfl<|qD rfl rfl rfl<|qD rfl rfl rfl<|qD rfl rfl rfl<|qD rfl rfl rfl<|qD rfl rfl rfl<|qD rfl rfl rfl<|Ud rfl rfl rfl rfl<|Ud rfl rfl rfl rfl<|Ud rfl rfl rfl rfl<|Ud rfl rfl rfl rfl<|Ud rfl rfl rfl rfl<|Ud rfl rfl rfl rfl<|qD rfl rfl rfl<|qD rfl rfl rfl<|Ud rfl rfl rfl rfl<|Ud rfl rfl rfl rfl<|Ud rfl rfl rfl rfl<|Ud rfl rfl rfl rfl<|Ud rfl rfl rfl rfl<|Ud rfl rfl rfl rfl<|qD rfl rfl rfl<|qP rfl rfl rfl<|Nl ⟨by kernel_rfl,(Wo rfl rfl<|Wu ?_)⟩
     intro yJ KJ hJ
     refine W.renameJ [(0,0),(1,42)] 2 (by decide) ?_ ?_ (hJ (()) (show True from trivial))
     ·exact lC (lI rfl) (lC (lI rfl) (lC (lR rfl) (lC (lR rfl) (lC (lR rfl) (lC (lR rfl) (lC (lR rfl) (lC (lR rfl) lN)))))))
     ·exact aU (kR rfl) (aU (kR rfl) aM)
    ·
     subst e
     obtain ⟨u1,u2,u3⟩:=u64_four n
     have hct:=containsX_any lan4 (fourA (n.val:Int)) 24 rfl u1 u2 u3 (by show (24:Int)≤32;decide)
     rw [(four_in n).1] at hct
     have hz:zeroA (fourA (n.val:Int))=false:=by have:=n.2;unfold zeroA eqA fourA;simp;omega
     rw [hz] at z4
     clear hz u1
     refine Wq<|Wd 48 76 (by decide) rfl mixed rfl<|qF rfl ty157 rfl<|qG rfl ty54 rfl (Tl rfl)<|qY rfl (z4) fok172 rfl<|qO rfl<|qM rfl<|gF rfl rfl ty105 rfl<|gG rfl rfl ty56 rfl (Tl rfl)<|gF rfl rfl ty157 rfl<|gG rfl rfl ty54 rfl (Tl rfl)<|gY rfl rfl (hct) fok40 rfl<|gO rfl rfl<|gM rfl rfl<|gF rfl rfl ty157 rfl<|gG rfl rfl ty54 rfl (Tl rfl)<|gF rfl rfl ty105 rfl<|gF rfl rfl ty56 rfl<|gG rfl rfl ty54 rfl (Tl rfl)<|qU rfl rfl rfl (LO.eql_ad_b (fourA (n.val:Int)) lan4.ad (four_in n).2.1 rfl rfl rfl)<|qU rfl rfl rfl (Pf0 rfl rfl rfl rfl)<|gM rfl rfl<|gF rfl rfl ty157 rfl<|gG rfl rfl ty54 rfl (Tl rfl)<|gF rfl rfl ty105 rfl<|gG rfl rfl ty56 rfl (Tl rfl)<|gY rfl rfl (hlast) fok173 rfl<|qU rfl rfl rfl (LO.eql_ad_b (fourA (n.val:Int)) (mkAd .or lan4.ad 24) (four_in n).2.2 rfl rfl rfl)<|qU rfl rfl rfl (Pf0 rfl rfl rfl rfl)<|qT rfl rfl rfl<|Nl ⟨by kernel_rfl,(Wo rfl rfl<|Wu ?_)⟩
     intro yJ KJ hJ
     refine W.renameJ [(0,0),(1,42)] 2 (by decide) ?_ ?_ (hJ (()) (show True from trivial))
     ·exact lC (lI rfl) (lC (lI rfl) (lC (lR rfl) (lC (lR rfl) (lC (lR rfl) (lC (lR rfl) (lC (lR rfl) (lC (lR rfl) lN)))))))
     ·exact aU (kR rfl) (aU (kR rfl) aM)
   rcases a6 with e|⟨n,e⟩
   ·
    subst e
    rw [show zeroA ⟨false,0,0⟩=true from rfl] at z6
    refine Wq<|qW 85 105 rfl<|qF rfl ty157 rfl<|qG rfl ty54 rfl (Tl rfl)<|qY rfl (z6) fok172 rfl<|qO rfl<|qM rfl<|qD rfl rfl rfl<|qD rfl rfl rfl<|qD rfl rfl rfl<|qD rfl rfl rfl<|qD rfl rfl rfl<|qD rfl rfl rfl<|qD rfl rfl rfl<|Ud rfl rfl rfl rfl<|Ud rfl rfl rfl rfl<|Ud rfl rfl rfl rfl<|Ud rfl rfl rfl rfl<|Ud rfl rfl rfl rfl<|Ud rfl rfl rfl rfl<|qD rfl rfl rfl<|qP rfl rfl rfl<|Nl<|Wo rfl rfl<|Wu<|qW 114 116 rfl<|qZ rfl (iW _ (by omega))<|qM rfl<|Nl<|WL.rename [(0,0)] 1 (by decide) ?_ ?_ (ihB (j + 1) (show ps.length - (j + 1) < ps.length - j from by omega) (show (j + 1)≤ps.length from by omega))
    ·exact aU (lR rfl) (aU (lR rfl) (aU (lR rfl) (aU (lR rfl) (aU (lR rfl) (aU (lR rfl) (aU (lI rfl) aM))))))
    ·exact aU (kR rfl) aM
   ·
    subst e
    obtain ⟨u1,u2,u3⟩:=u64_six n
    have hct:=containsX_any lan6 (sixA (n.val:Int)) 64 rfl u1 u2 u3 (by show (64:Int)≤128;decide)
    rw [(six_in n).1] at hct
    have hz:zeroA (sixA (n.val:Int))=false:=rfl
    rw [hz] at z6
    clear hz u1
    refine Wq<|qW 85 105 rfl<|qF rfl ty157 rfl<|qG rfl ty54 rfl (Tl rfl)<|qY rfl (z6) fok172 rfl<|qO rfl<|qM rfl<|gF rfl rfl ty105 rfl<|gG rfl rfl ty56 rfl (Tl rfl)<|gF rfl rfl ty157 rfl<|gG rfl rfl ty54 rfl (Tl rfl)<|gY rfl rfl (hct) fok40 rfl<|gO rfl rfl<|gM rfl rfl<|gF rfl rfl ty157 rfl<|gG rfl rfl ty54 rfl (Tl rfl)<|gF rfl rfl ty105 rfl<|gF rfl rfl ty56 rfl<|gG rfl rfl ty54 rfl (Tl rfl)<|qU rfl rfl rfl (LO.eql_ad_b (sixA (n.val:Int)) lan6.ad (six_in n).2 rfl rfl rfl)<|qU rfl rfl rfl (Pf0 rfl rfl rfl rfl)<|qT rfl rfl rfl<|Nl<|Wo rfl rfl<|Wu<|qW 114 116 rfl<|qZ rfl (iW _ (by omega))<|qM rfl<|Nl<|WL.rename [(0,0)] 1 (by decide) ?_ ?_ (ihB (j + 1) (show ps.length - (j + 1) < ps.length - j from by omega) (show (j + 1)≤ps.length from by omega))
    ·exact aU (lR rfl) (aU (lR rfl) (aU (lR rfl) (aU (lR rfl) (aU (lR rfl) (aU (lR rfl) (aU (lI rfl) aM))))))
    ·exact aU (kR rfl) aM
  ·have g2:decide ((j:Int) < (ps.length:Int))=false:=decide_eq_false (by omega)
   refine Wq<|qW 35 36 rfl<|qK rfl<|Nl<|Wq<|Wo rfl ‹_›<|Wx ?_
   clear ihB
   refine qW 120 122 rfl<|qZ rfl (iW _ (by omega))<|qM rfl<|Nl<|WL.rename [(0,0)] 1 (by decide) ?_ ?_ (ihA (i + 1) (show A.length - (i + 1) < A.length - i from by omega) (show (i + 1)≤A.length from by omega))
   ·exact aU (lR rfl) (aU (lR rfl) (aU (lR rfl) (aU (lI rfl) aM)))
   ·exact aU (kR rfl) aM
 ·have g1:decide ((i:Int) < (A.length:Int))=false:=decide_eq_false (by omega)
  refine Wq<|qW 14 15 rfl<|qK rfl<|Nl<|Wq<|Wo rfl ‹_›<|Wx<|Wq<|qW 126 127 rfl<|qA rfl<|Nl<|Wz ⟨.inl rfl,_,mt,Rc (Rt rfl) (Rv),aM,?_⟩
  exact ⟨rfl,rfl⟩
theorem dbck_any (d:Db) (hd:DbOk d) (ho:Once d):AFn Tryz.prog 91 0 [.agg (dbC d)] mt (.base (.int .i64 0)) mt:=by
 refine AFn.eq Tryz.func91 rfl rfl (Nat.le_of_ble_eq_true rfl) ?_
 have c1:=many_any d hd
 have c2:=wrong_any d hd
 have c3:=outside_any d hd
 have c4:=twice_any d ho
 refine Wq<|qW 0 2 rfl<|qC rfl<|qA rfl<|Nl<|Wq<|Wb<|Wq<|qW 6 9 rfl<|qG rfl ty105 rfl (Tl rfl)<|qY rfl (c1) fok131 rfl<|qA rfl<|Nl<|Wo rfl rfl<|Wq<|qW 18 21 rfl<|qG rfl ty105 rfl (Tl rfl)<|qY rfl (c2) fok132 rfl<|qA rfl<|Nl<|Wo rfl rfl<|Wq<|qW 30 33 rfl<|qG rfl ty105 rfl (Tl rfl)<|qY rfl (c3) fok133 rfl<|qA rfl<|Nl<|Wo rfl rfl<|Wq<|qW 42 45 rfl<|qG rfl ty105 rfl (Tl rfl)<|qY rfl (c4) fok134 rfl<|qA rfl<|Nl<|Wo rfl rfl<|Wu<|Wq<|qW 54 55 rfl<|qA rfl<|Nl<|Wz ⟨.inl rfl,_,mt,Rc (Rt rfl) (Rv),aM,?_⟩
 exact ⟨rfl,rfl⟩
end Go.Proofs.YtlcndmciognneaaGreatDoor
