/-
  Right members pass member.alone. One address as a slice, or none. What occurs for the first time is noted in a map: the generic once. Nothing occurs twice in a right database: member.different. The program's check and rules of a right database. The setting of chapter 10. The check of sanity of chapter 10. A frame with a message of neighbour discovery that was encoded: its verdict. ForwardSends: its law. GuardProbes: its law.
-/
import Derived.Test.YtlcndmciognneaaGreatDoorYm
import Derived.Test.YtlcndmciognneaaGreatDoorMab
import Derived.Test.YtlcndmciognneaaGreatDoorQs
namespace Go.Proofs.YtlcndmciognneaaGreatDoor
open Go.RowKit
set_option maxHeartbeats 2000000 in
theorem alone_any (d:Db) (hd:DbOk d) (h0:1≤(d.servers++d.members).length):AFn Tryz.prog 159 0 [.agg (dbC d)] mt (.base (.bool true)) mt:=by
 refine AFn.eq Tryz.func159 rfl rfl (Nat.le_of_ble_eq_true rfl) ?_
 have h4:=hd.ns
 have h32:=hd.nm
 have hmem:=hd.mem
 have e4:=hd.l4
 have e6:=hd.l6
 have hall:=allM_any d h0 (by omega) (by omega)
 obtain ⟨A,hA⟩:∃ A,A=d.servers++d.members:=⟨_,rfl⟩
 rw [← hA] at hall hmem
 have hAl:A.length≤2000:=by rw [hA,List.length_append];omega
 clear hd hA h0
 obtain ⟨l4,l6,sv,mb⟩:=d
 dsimp only at e4 e6
 subst e4 e6
 have v4:=validE4
 have v6:=validE6
 have w4:=mwithin_yes (n:=24) (l:=8) (h:=30) (by decide) (by decide)
 have w6:=mwithin_yes (n:=64) (l:=32) (h:=64) (by decide) (by decide)
 refine Wq<|qW 0 2 rfl<|qC rfl<|qA rfl<|Nl<|Wq<|Wq<|qW 6 43 rfl<|qF rfl ty105 rfl<|qG rfl ty56 rfl (Tl rfl)<|qY rfl (v4) fok183 rfl<|qO rfl<|qM rfl<|gF rfl rfl ty105 rfl<|gF rfl rfl ty56 rfl<|gF rfl rfl ty54 rfl<|gL rfl rfl ty4 rfl<|qP rfl rfl rfl<|qM rfl<|gF rfl rfl ty105 rfl<|gF rfl rfl ty56 rfl<|gL rfl rfl ty3 rfl<|gY rfl rfl (w4) fok182 rfl<|gO rfl rfl<|qP rfl rfl rfl<|qM rfl<|gF rfl rfl ty105 rfl<|gG rfl rfl ty56 rfl (Tl rfl)<|gY rfl rfl (v6) fok183 rfl<|gO rfl rfl<|qP rfl rfl rfl<|qM rfl<|gF rfl rfl ty105 rfl<|gF rfl rfl ty56 rfl<|gF rfl rfl ty54 rfl<|gL rfl rfl ty4 rfl<|gO rfl rfl<|qP rfl rfl rfl<|qM rfl<|gF rfl rfl ty105 rfl<|gF rfl rfl ty56 rfl<|gL rfl rfl ty3 rfl<|gY rfl rfl (w6) fok182 rfl<|gO rfl rfl<|qP rfl rfl rfl<|Nl<|Wo rfl rfl<|Wu<|Wq<|Wq<|qW 52 56 rfl<|qG rfl ty105 rfl (Tl rfl)<|qY rfl (hall) fok167 rfl<|qH rfl ty103<|qM rfl<|Nl<|Wb<|W.rename [] 0 (T':=up (up (up mt 43 (some (.isl (memsC A) A.length))) 44 (some (.base (.int .i64 (A.length:Int))))) 45 (some (.base (.int .i64 (0:Int))))) (H':=mt) (by decide) ?_ ?_ ?_
 ·exact aU (lR rfl) (aU (lR rfl) (aU (lR rfl) aM))
 ·exact aM
 refine W.loop_ind (α:=Nat) (fun x=>A.length - x) 0 (fun x=>up (up (up mt 43 (some (.isl (memsC A) A.length))) 44 (some (.base (.int .i64 (A.length:Int))))) 45 (some (.base (.int .i64 (x:Int))))) (fun x=>mt) (fun x=>x≤A.length) 0 (show 0≤A.length from Nat.zero_le _) ?_
 rintro i hIA ihA
 try (dsimp only at hIA)
 try dsimp only
 by_cases hc:i < A.length
 ·have g1:decide ((i:Int) < (A.length:Int))=true:=decide_eq_true (by omega)
  have hm:=hmem _ (List.getElem_mem hc)
  refine Wq<|qW 60 61 rfl<|qK rfl<|Nl<|Wq<|Wt rfl ‹_›<|Wu<|Wq<|Wb<|Wq<|qW 65 69 rfl<|qJ rfl rfl ty103 ty150 (by omega)<|Od rfl rfl (Lg rfl rfl ty150 rfl (mems_tk hc))<|qB rfl ty150<|qS rfl ty150 (Sl rfl) rfl<|Nl ?_
  generalize A[i]=m at *
  have hnp:=hm.np
  have w1:=mwithin_yes hm.asn.1 hm.asn.2
  have w2:=mwithin_yes hm.max4.1 hm.max4.2
  have w3:=mwithin_yes hm.max6.1 hm.max6.2
  have hcf:=containsF_any m.ports (by omega) hm.ports
  have hna:=named_any _ hm.name
  obtain ⟨asn,name,set,x4,x6,ps⟩:=m
  rcases hm.set with e|e|e
  all_goals
   dsimp only at e w1 w2 w3 hcf hna
   subst e
  ·
   have k1:(!(emptyS.toList == (⟨#[]⟩:ByteArray).toList))=false:=by decide +kernel
   have k2:(emptyS.toList == (⟨#[45]⟩:ByteArray).toList)=false:=by decide +kernel
   refine Wq<|qW 73 116 rfl<|qF rfl ty150 rfl<|qL rfl ty3 rfl<|qY rfl (w1) fok182 rfl<|qO rfl<|qM rfl<|gF rfl rfl ty150 rfl<|gL rfl rfl ty9 rfl<|gY rfl rfl (hna) fok184 rfl<|gO rfl rfl<|qP rfl rfl rfl<|qM rfl<|gF rfl rfl ty150 rfl<|gL rfl rfl ty9 rfl<|qU rfl rfl rfl (LO.neq_str rfl rfl rfl)<|gM rfl rfl<|qD rfl ‹_› rfl<|qD rfl ‹_› rfl<|qD rfl ‹_› rfl<|qD rfl ‹_› rfl<|qU rfl rfl rfl (Pf0 rfl rfl ‹_› rfl)<|qP rfl rfl rfl<|qM rfl<|gF rfl rfl ty150 rfl<|gL rfl rfl ty9 rfl<|qU rfl rfl rfl (LO.eql_str rfl rfl rfl)<|qP rfl rfl rfl<|qM rfl<|gF rfl ‹_› ty150 rfl<|gL rfl ‹_› ty3 rfl<|gY rfl ‹_› (w2) fok182 rfl<|gO rfl ‹_›<|qP rfl ‹_› rfl<|qM rfl<|gF rfl rfl ty150 rfl<|gL rfl rfl ty3 rfl<|gY rfl rfl (w3) fok182 rfl<|gO rfl rfl<|qP rfl rfl rfl<|qM rfl<|gF rfl rfl ty150 rfl<|gL rfl rfl ty148 rfl<|gY rfl rfl (hcf) fok185 rfl<|qP rfl rfl rfl<|Nl<|Wo rfl rfl<|Wu<|qW 125 127 rfl<|qZ rfl (iW _ (by omega))<|qM rfl<|Nl<|WL.rename [] 0 (by decide) ?_ ?_ (ihA (i + 1) (show A.length - (i + 1) < A.length - i from by omega) (show (i + 1)≤A.length from by omega))
   ·exact aU (lR rfl) (aU (lR rfl) (aU (lR rfl) aM))
   ·exact aM
  ·
   have hset:=named_any _ asA_ok
   have k1:(!(asA.toList == (⟨#[]⟩:ByteArray).toList))=true:=by decide +kernel
   have k2:(asA.toList == (⟨#[45]⟩:ByteArray).toList)=false:=by decide +kernel
   refine Wq<|qW 73 116 rfl<|qF rfl ty150 rfl<|qL rfl ty3 rfl<|qY rfl (w1) fok182 rfl<|qO rfl<|qM rfl<|gF rfl rfl ty150 rfl<|gL rfl rfl ty9 rfl<|gY rfl rfl (hna) fok184 rfl<|gO rfl rfl<|qP rfl rfl rfl<|qM rfl<|gF rfl rfl ty150 rfl<|gL rfl rfl ty9 rfl<|qU rfl rfl rfl (LO.neq_str rfl rfl rfl)<|gM rfl rfl<|gF rfl ‹_› ty150 rfl<|gL rfl ‹_› ty9 rfl<|gY rfl ‹_› (hset) fok184 rfl<|gO rfl ‹_›<|qU rfl rfl rfl (Pt rfl rfl ‹_› rfl)<|qP rfl rfl rfl<|qM rfl<|gF rfl rfl ty150 rfl<|gL rfl rfl ty9 rfl<|qU rfl rfl rfl (LO.eql_str rfl rfl rfl)<|qP rfl rfl rfl<|qM rfl<|gF rfl ‹_› ty150 rfl<|gL rfl ‹_› ty3 rfl<|gY rfl ‹_› (w2) fok182 rfl<|gO rfl ‹_›<|qP rfl ‹_› rfl<|qM rfl<|gF rfl rfl ty150 rfl<|gL rfl rfl ty3 rfl<|gY rfl rfl (w3) fok182 rfl<|gO rfl rfl<|qP rfl rfl rfl<|qM rfl<|gF rfl rfl ty150 rfl<|gL rfl rfl ty148 rfl<|gY rfl rfl (hcf) fok185 rfl<|qP rfl rfl rfl<|Nl<|Wo rfl rfl<|Wu<|qW 125 127 rfl<|qZ rfl (iW _ (by omega))<|qM rfl<|Nl<|WL.rename [] 0 (by decide) ?_ ?_ (ihA (i + 1) (show A.length - (i + 1) < A.length - i from by omega) (show (i + 1)≤A.length from by omega))
   ·exact aU (lR rfl) (aU (lR rfl) (aU (lR rfl) aM))
   ·exact aM
  ·
   have hset:=named_any _ asB_ok
   have k1:(!(asB.toList == (⟨#[]⟩:ByteArray).toList))=true:=by decide +kernel
   have k2:(asB.toList == (⟨#[45]⟩:ByteArray).toList)=false:=by decide +kernel
   refine Wq<|qW 73 116 rfl<|qF rfl ty150 rfl<|qL rfl ty3 rfl<|qY rfl (w1) fok182 rfl<|qO rfl<|qM rfl<|gF rfl rfl ty150 rfl<|gL rfl rfl ty9 rfl<|gY rfl rfl (hna) fok184 rfl<|gO rfl rfl<|qP rfl rfl rfl<|qM rfl<|gF rfl rfl ty150 rfl<|gL rfl rfl ty9 rfl<|qU rfl rfl rfl (LO.neq_str rfl rfl rfl)<|gM rfl rfl<|gF rfl ‹_› ty150 rfl<|gL rfl ‹_› ty9 rfl<|gY rfl ‹_› (hset) fok184 rfl<|gO rfl ‹_›<|qU rfl rfl rfl (Pt rfl rfl ‹_› rfl)<|qP rfl rfl rfl<|qM rfl<|gF rfl rfl ty150 rfl<|gL rfl rfl ty9 rfl<|qU rfl rfl rfl (LO.eql_str rfl rfl rfl)<|qP rfl rfl rfl<|qM rfl<|gF rfl ‹_› ty150 rfl<|gL rfl ‹_› ty3 rfl<|gY rfl ‹_› (w2) fok182 rfl<|gO rfl ‹_›<|qP rfl ‹_› rfl<|qM rfl<|gF rfl rfl ty150 rfl<|gL rfl rfl ty3 rfl<|gY rfl rfl (w3) fok182 rfl<|gO rfl rfl<|qP rfl rfl rfl<|qM rfl<|gF rfl rfl ty150 rfl<|gL rfl rfl ty148 rfl<|gY rfl rfl (hcf) fok185 rfl<|qP rfl rfl rfl<|Nl<|Wo rfl rfl<|Wu<|qW 125 127 rfl<|qZ rfl (iW _ (by omega))<|qM rfl<|Nl<|WL.rename [] 0 (by decide) ?_ ?_ (ihA (i + 1) (show A.length - (i + 1) < A.length - i from by omega) (show (i + 1)≤A.length from by omega))
   ·exact aU (lR rfl) (aU (lR rfl) (aU (lR rfl) aM))
   ·exact aM
 ·have g1:decide ((i:Int) < (A.length:Int))=false:=decide_eq_false (by omega)
  refine Wq<|qW 60 61 rfl<|qK rfl<|Nl<|Wq<|Wo rfl ‹_›<|Wx<|Wq<|qW 131 132 rfl<|qA rfl<|Nl<|Wz ⟨.inl rfl,_,mt,Rc (Rt0 rfl) (Rv),aM,?_⟩
  exact ⟨rfl,rfl⟩
theorem oneA_any (a:Ad):AFn Tryz.prog 122 0 [.agg (adC a)] mt (.isl (adsC (ad1 a)) (ad1 a).length) mt:=by
 refine AFn.eq Tryz.func122 rfl rfl (Nat.le_of_ble_eq_true rfl) ?_
 by_cases hz:zeroA a=true
 ·have h1:ad1 a=[]:=by unfold ad1;rw [if_pos hz]
  rw [h1]
  have he:eqA a ⟨false,0,0⟩=true:=hz
  refine Wq<|qW 0 2 rfl<|qC rfl<|qA rfl<|Nl<|Wq<|Wq<|qW 6 9 rfl<|qG rfl ty54 rfl (Tl rfl)<|Od rfl rfl (Bs rfl ty54 .nil)<|Od rfl rfl (LO.eql_ad_b a ⟨false,0,0⟩ he rfl rfl rfl)<|Nl<|Wt rfl rfl<|Wq<|qW 13 14 rfl<|qA rfl<|Nl<|W.nilt (t:=2) rfl<|Wz ⟨.inl rfl,_,mt,Rc (Rt0 rfl) (Rv),aM,?_⟩
  exact ⟨rfl,rfl⟩
 ·have h1:ad1 a=[a]:=by unfold ad1;rw [if_neg hz]
  rw [h1]
  have he:eqA a ⟨false,0,0⟩=false:=by simpa [zeroA] using hz
  refine Wq<|qW 0 2 rfl<|qC rfl<|qA rfl<|Nl<|Wq<|Wq<|qW 6 9 rfl<|qG rfl ty54 rfl (Tl rfl)<|Od rfl rfl (Bs rfl ty54 .nil)<|Od rfl rfl (LO.eql_ad_b a ⟨false,0,0⟩ he rfl rfl rfl)<|Nl<|Wo rfl rfl<|Wu<|Wq<|qW 18 21 rfl<|qG rfl ty54 rfl (Tl rfl)<|Od rfl rfl (LO.buildSlice rfl ty37 ty54 (by decide) (by decide) (.cons rfl rfl rfl rfl (Sl rfl) .nil))<|qA rfl<|Nl<|Wy (t:=2) rfl rfl (Tl rfl) rfl<|Wz ⟨.inl rfl,_,mt,Rc (Rt0 rfl) (Rv),aM,?_⟩
  exact ⟨rfl,rfl⟩
theorem onceI_any (S:List Value) (x:Int) (hn:Value.int .i64 x ∉ S) (hkd:kdOf Tryz.prog 3 (.int .i64 x)):AFn Tryz.prog 189 1 [.mref 0,.base (.int .i64 x)] (up mt 0 (some [.mp (kdOf Tryz.prog 3) (setV S)])) (.base (.bool true)) (up mt 0 (some [.mp (kdOf Tryz.prog 3) (setV (S++[.int .i64 x]))])):=by
 refine AFn.eq Tryz.func189 rfl rfl (Nat.le_of_ble_eq_true rfl) ?_
 have hmi:=mk_int (P:=Tryz.prog) (lay_int ty3)
 have hlk:(setV S (.int .i64 x)).getD (.bool false)=.bool false:=setV_out hn
 refine Wq<|qW 1 2 rfl<|qA rfl<|Nl<|Wq<|qW 6 10 rfl<|qM rfl<|qM rfl<|Od rfl rfl (LO.lookup rfl rfl rfl (KV.base _) rfl ty208 hmi hkd (zero_of (by kernel_rfl)) hlk)<|qA rfl<|Nl<|Wq<|qW 14 17 rfl<|qM rfl<|qM rfl<|On rfl rfl (LO.mapUpdate rfl rfl rfl (KV.base _) rfl rfl ty208 hmi hkd (m':=setV (S++[.int .i64 x])) (setV_at _ _) (setV_else _ _))<|Nl<|Wq<|qW 21 24 rfl<|qM rfl<|qO rfl<|qA rfl<|Nl<|Wz ⟨.inl rfl,_,up mt 0 (some [.mp (kdOf Tryz.prog 3) (setV (S++[.int .i64 x]))]),(Rc (Rt0 rfl) Rv),(aU rfl aM),?_⟩
 exact ⟨rfl,rfl⟩
theorem onceS_any (S:List Value) (x:ByteArray) (hn:Value.string x ∉ S) (hkd:kdOf Tryz.prog 9 (Value.string x)):AFn Tryz.prog 190 1 [.mref 0,.base (.string x)] (up mt 0 (some [.mp (kdOf Tryz.prog 9) (setV S)])) (.base (.bool true)) (up mt 0 (some [.mp (kdOf Tryz.prog 9) (setV (S++[Value.string x]))])):=by
 refine AFn.eq Tryz.func190 rfl rfl (Nat.le_of_ble_eq_true rfl) ?_
 have hms:=mk_str (P:=Tryz.prog) (lay_str ty9)
 have hlk:(setV S (Value.string x)).getD (.bool false)=.bool false:=setV_out hn
 refine Wq<|qW 1 2 rfl<|qA rfl<|Nl<|Wq<|qW 6 10 rfl<|qM rfl<|qM rfl<|Od rfl rfl (LO.lookup rfl rfl rfl (KV.base _) rfl ty209 hms hkd (zero_of (by kernel_rfl)) hlk)<|qA rfl<|Nl<|Wq<|qW 14 17 rfl<|qM rfl<|qM rfl<|On rfl rfl (LO.mapUpdate rfl rfl rfl (KV.base _) rfl rfl ty209 hms hkd (m':=setV (S++[Value.string x])) (setV_at _ _) (setV_else _ _))<|Nl<|Wq<|qW 21 24 rfl<|qM rfl<|qO rfl<|qA rfl<|Nl<|Wz ⟨.inl rfl,_,up mt 0 (some [.mp (kdOf Tryz.prog 9) (setV (S++[Value.string x]))]),(Rc (Rt0 rfl) Rv),(aU rfl aM),?_⟩
 exact ⟨rfl,rfl⟩
theorem onceA_any (S:List Value) (a:Ad) (hn:adV a ∉ S) (hkd:kdOf Tryz.prog 54 (adV a)):AFn Tryz.prog 192 1 [.mref 0,.agg (adC a)] (up mt 0 (some [.mp (kdOf Tryz.prog 54) (setV S)])) (.base (.bool true)) (up mt 0 (some [.mp (kdOf Tryz.prog 54) (setV (S++[adV a]))])):=by
 refine AFn.eq Tryz.func192 rfl rfl (Nat.le_of_ble_eq_true rfl) ?_
 have hlk:(setV S (adV a)).getD (.bool false)=.bool false:=setV_out hn
 refine Wq<|qW 1 3 rfl<|qC rfl<|qA rfl<|Nl<|Wq<|qW 7 11 rfl<|qM rfl<|qG rfl ty54 rfl (Tl rfl)<|Od rfl rfl (LO.lookup rfl rfl rfl (kv_ad a) rfl ty211 mk_ad hkd (zero_of (by kernel_rfl)) hlk)<|qA rfl<|Nl<|Wq<|qW 15 18 rfl<|qM rfl<|qG rfl ty54 rfl (Tl rfl)<|On rfl rfl (LO.mapUpdate rfl rfl rfl (kv_ad a) rfl rfl ty211 mk_ad hkd (m':=setV (S++[adV a])) (setV_at _ _) (setV_else _ _))<|Nl<|Wq<|qW 22 25 rfl<|qM rfl<|qO rfl<|qA rfl<|Nl<|Wz ⟨.inl rfl,_,up mt 0 (some [.mp (kdOf Tryz.prog 54) (setV (S++[adV a]))]),(Rc (Rt0 rfl) Rv),(aU rfl aM),?_⟩
 exact ⟨rfl,rfl⟩
theorem onceM_any (S:List Value) (m:List Int) (h6:m.length=6) (hn:macV m ∉ S) (hkd:kdOf Tryz.prog 23 (macV m)):AFn Tryz.prog 191 1 [.mref 0,.agg (bytesC m)] (up mt 0 (some [.mp (kdOf Tryz.prog 23) (setV S)])) (.base (.bool true)) (up mt 0 (some [.mp (kdOf Tryz.prog 23) (setV (S++[macV m]))])):=by
 refine AFn.eq Tryz.func191 rfl rfl (Nat.le_of_ble_eq_true rfl) ?_
 obtain ⟨m0,m1,m2,m3,m4,m5,rfl⟩:=six_of h6
 have hlk:(setV S (macV [m0,m1,m2,m3,m4,m5])).getD (.bool false)=.bool false:=setV_out hn
 refine Wq<|qW 1 3 rfl<|qC rfl<|qA rfl<|Nl<|Wq<|qW 7 11 rfl<|qM rfl<|qG rfl ty23 rfl (Tl rfl)<|Od rfl rfl (LO.lookup rfl rfl rfl (kv_mac [m0,m1,m2,m3,m4,m5]) rfl ty210 mk_mac hkd (zero_of (by kernel_rfl)) hlk)<|qA rfl<|Nl<|Wq<|qW 15 18 rfl<|qM rfl<|qG rfl ty23 rfl (Tl rfl)<|On rfl rfl (LO.mapUpdate rfl rfl rfl (kv_mac [m0,m1,m2,m3,m4,m5]) rfl rfl ty210 mk_mac hkd (m':=setV (S++[macV [m0,m1,m2,m3,m4,m5]])) (setV_at _ _) (setV_else _ _))<|Nl<|Wq<|qW 22 25 rfl<|qM rfl<|qO rfl<|qA rfl<|Nl<|Wz ⟨.inl rfl,_,up mt 0 (some [.mp (kdOf Tryz.prog 23) (setV (S++[macV [m0,m1,m2,m3,m4,m5]]))]),(Rc (Rt0 rfl) Rv),(aU rfl aM),?_⟩
 exact ⟨rfl,rfl⟩
theorem ad_not2 {Q rest:List Prt} {p:Prt} (h:((Q++p::rest).flatMap adsP).Nodup):(zeroA p.v4=false→p.v4 ∉ Q.flatMap adsP)∧(zeroA p.v6=false→p.v6 ∉ Q.flatMap adsP++(if zeroA p.v4=true then [] else [p.v4])):=by
 rw [List.flatMap_append,List.flatMap_cons] at h
 generalize rest.flatMap adsP=R at *
 generalize Q.flatMap adsP=X at *
 unfold adsP at h
 constructor
 ·intro hz
  have h':(X++p.v4::((if zeroA p.v6=true then [] else [p.v6])++R)).Nodup:=by
   simpa [hz] using h
  exact nodup_mid h'
 ·intro hz
  have h':((X++(if zeroA p.v4=true then [] else [p.v4]))++p.v6::R).Nodup:=by
   simpa [hz] using h
  exact nodup_mid h'
def adK (p:Prt) (n:Nat):List Ad:=if n=0 then [] else if n=1 then (if zeroA p.v4=true then [] else [p.v4]) else adsP p
def adAt (p:Prt) (n:Nat):Ad:=if n=0 then p.v4 else p.v6
theorem adK_next {p:Prt} {n:Nat} (h:n < 2):adK p (n + 1)=adK p n++(if zeroA (adAt p n)=true then [] else [adAt p n]):=by
 match n,h with
 | 0,_=>simp [adK,adAt]
 | 1,_=>simp [adK,adAt,adsP]
theorem adK_not {Q rest:List Prt} {p:Prt} (h:((Q++p::rest).flatMap adsP).Nodup) {n:Nat} (hn:n < 2) (hz:zeroA (adAt p n)=false):adAt p n ∉ Q.flatMap adsP++adK p n:=by
 obtain ⟨h1,h2⟩:=ad_not2 h
 match n,hn with
 | 0,_=>simpa [adK,adAt] using h1 hz
 | 1,_=>simpa [adK,adAt] using h2 hz
theorem adC_tk2 (p:Prt) {n:Nat} (h:n < 2):Tk (adC p.v4++adC p.v6) (n * 3) 3 (adC (adAt p n)):=by
 match n,h with
 | 0,_=>exact Tk.lit rfl
 | 1,_=>exact Tk.lit rfl
theorem purB {l:List Int}:(AV.agg (bytesC l)).pure=true:=bytesC_pure l
set_option maxRecDepth 20000 in
set_option maxHeartbeats 2000000 in
theorem different_any (d:Db) (hd:Once d) (h0:1≤(d.servers++d.members).length) (hps:(allP d).length≤1000):AFn Tryz.prog 161 0 [.agg (dbC d)] mt (.base (.bool true)) mt:=by
 refine AFn.eq Tryz.func161 rfl rfl (Nat.le_of_ble_eq_true rfl) ?_
 have hik:Tryz.prog.underlying 3=some (.int .i64):=lay_int ty3
 have hsl:=hd.sl
 have hml:=hd.ml
 have hall:=allM_any d h0 hd.sl hd.ml
 have hpo:=portsM_any d h0 hd.sl hd.ml hps
 obtain ⟨A,hA⟩:∃ A,A=d.servers++d.members:=⟨_,rfl⟩
 rw [← hA] at hall
 have hAl:A.length≤2000:=by rw [hA,List.length_append];omega
 have hnA:=hd.name
 rw [← hA] at hnA
 have hnames:=hd.names
 rw [← hA] at hnames
 have hids:=hd.ids
 have hmacs:=hd.macs
 have hads:=hd.ads
 have hprt:=hd.prt
 have hsk:Tryz.prog.underlying 9=some .string:=lay_str ty9
 generalize allP d=ps at *
 refine Wq<|qW 0 2 rfl<|qC rfl<|qA rfl<|Nl<|Wq<|qW 6 16 rfl<|Od rfl rfl (LO.makeMap (kdOf Tryz.prog 3) rfl)<|Od rfl rfl (LO.makeMap (kdOf Tryz.prog 9) rfl)<|Od rfl rfl (LO.makeMap (kdOf Tryz.prog 3) rfl)<|Od rfl rfl (LO.makeMap (kdOf Tryz.prog 23) rfl)<|Od rfl rfl (LO.makeMap (kdOf Tryz.prog 54) rfl)<|qA rfl<|qA rfl<|qA rfl<|qA rfl<|qA rfl<|Nl ?_
 rw [← setV_nil]
 refine Wq<|Wq<|qW 20 24 rfl<|qF rfl ty105 rfl<|qL rfl ty103 rfl<|qH rfl ty103<|qM rfl<|Nl<|Wb<|W.loop_keep (α:=Nat) (fun x=>d.servers.length - x) 6 (fun x=>[(1,.own 0 0),(3,.mref 1),(4,.mref 2),(5,.mref 3),(6,.mref 4),(7,.mref 5),(29,.base (.int .i64 (x:Int)))]) (fun x=>up (up (up (up (up (up mt 0 (some (dbC d))) 1 (some ([.mp (kdOf Tryz.prog 3) (setV ((d.servers.take x).map asnV))]))) 2 (some ([.mp (kdOf Tryz.prog 9) (setV [])]))) 3 (some ([.mp (kdOf Tryz.prog 3) (setV [])]))) 4 (some ([.mp (kdOf Tryz.prog 23) (setV [])]))) 5 (some ([.mp (kdOf Tryz.prog 54) (setV [])]))) (fun x=>x≤d.servers.length) 0 [(0,0),(1,6),(2,7),(3,8),(4,9),(5,10)] (.cons (t:=27) rfl (by exact .inl rfl) (.cons (t:=28) rfl (by exact .inl rfl) .nil)) (show 0≤d.servers.length from Nat.zero_le _) (by decide) ?_ ?_ ?_
 ·exact lC (lI rfl) (lC (lI rfl) (lC (lI rfl) (lC (lI rfl) (lC (lI rfl) (lC (lI rfl) (lC (lR rfl) lN))))))
 ·exact aU (kI rfl) (aU (kI rfl) (aU (kI rfl) (aU (kI rfl) (aU (kI rfl) (aU (kR rfl) aM)))))
 rintro i hIA ihA
 try (dsimp only at hIA)
 try dsimp only [baseT,List.cons_append,List.nil_append]
 by_cases hc:i < d.servers.length
 ·have g1:decide ((i:Int) < (d.servers.length:Int))=true:=decide_eq_true (by omega)
  have hpos:0 < d.servers.length:=by omega
  have hme:d.servers[i]∈d.servers:=List.getElem_mem hc
  have hsame:=hd.same _ hme hpos
  have hkd:=kd_i64w hik (hd.asn _ (List.mem_append_left _ hme))
  have k1:(d.servers[i].asn != d.servers[0].asn)=false:=by rw [hsame];simp
  have htk:=take_snoc asnV hc
  have hmi:MKey Tryz.prog 3 (kdOf Tryz.prog 3):=mk_int hik
  refine Wq<|qW 28 29 rfl<|qK rfl<|Nl<|Wq<|Wt rfl ‹_›<|Wu<|Wq<|Wb<|Wq<|qW 33 39 rfl<|qM rfl<|qJ rfl rfl ty103 ty150 (by omega)<|Od rfl rfl (Lg rfl rfl ty150 rfl (mems_tk hc))<|qB rfl ty150<|qA rfl<|qS rfl ty150 (Sl rfl) rfl<|Nl ?_
  by_cases hi0:i=0
  ·have g2:decide ((0:Int) < (i:Int))=false:=decide_eq_false (by omega)
   refine Wq<|Wq<|Wd 43 55 (by decide) rfl mixed rfl<|qM rfl<|qGt rfl<|qM rfl<|qD rfl ‹_› rfl<|qD rfl ‹_› rfl<|qD rfl ‹_› rfl<|qD rfl ‹_› rfl<|qD rfl ‹_› rfl<|qD rfl ‹_› rfl<|qD rfl ‹_› rfl<|qD rfl ‹_› rfl<|qP rfl ‹_› rfl<|Nl ⟨by kernel_rfl,(Wo rfl rfl<|Wu<|qW 64 68 rfl<|qM rfl<|qF rfl ty150 rfl<|qL rfl ty3 rfl<|On rfl rfl (LO.mapUpdate rfl rfl rfl (KV.base _) rfl rfl ty208 hmi hkd (m':=setV ((d.servers.take (i + 1)).map asnV)) (by rw [htk];exact setV_at _ _) (by rw [htk];exact setV_else _ _))<|Nl<|qW 72 74 rfl<|qZ rfl (iW _ (by omega))<|qM rfl<|Nl<|WL.renameL [(0,0),(1,1),(2,2),(3,3),(4,4),(5,5)] 6 (by decide) ?_ ?_ (ihA (i + 1) (show d.servers.length - (i + 1) < d.servers.length - i from by omega) (show (i + 1)≤d.servers.length from by omega)))⟩
   ·exact lC (lI rfl) (lC (lI rfl) (lC (lI rfl) (lC (lI rfl) (lC (lI rfl) (lC (lI rfl) (lC (lR rfl) (lC (lR rfl) (lC (lR rfl) lN))))))))
   ·exact aU (kI rfl) (aU (kI rfl) (aU (kI rfl) (aU (kI rfl) (aU (kI rfl) (aU (kR rfl) aM)))))
  ·have g2:decide ((0:Int) < (i:Int))=true:=decide_eq_true (by omega)
   refine Wq<|Wq<|Wd 43 55 (by decide) rfl mixed rfl<|qM rfl<|qGt rfl<|qM rfl<|gF rfl ‹_› ty150 rfl<|gL rfl ‹_› ty3 rfl<|gF rfl ‹_› ty105 rfl<|gL rfl ‹_› ty103 rfl<|qU rfl ‹_› rfl (Ii rfl rfl rfl rfl rfl ty103 ty150 (by omega))<|qU rfl ‹_› rfl (Fi rfl rfl ty150 rfl (by decide))<|qU rfl ‹_› rfl (Li rfl rfl ((mems_tk hpos).2 0 _ rfl) ty3 rfl)<|gN rfl ‹_›<|qT rfl ‹_› rfl<|Nl ⟨by kernel_rfl,(Wo rfl ‹_›<|Wu<|qW 64 68 rfl<|qM rfl<|qF rfl ty150 rfl<|qL rfl ty3 rfl<|On rfl rfl (LO.mapUpdate rfl rfl rfl (KV.base _) rfl rfl ty208 hmi hkd (m':=setV ((d.servers.take (i + 1)).map asnV)) (by rw [htk];exact setV_at _ _) (by rw [htk];exact setV_else _ _))<|Nl<|qW 72 74 rfl<|qZ rfl (iW _ (by omega))<|qM rfl<|Nl<|WL.renameL [(0,0),(1,1),(2,2),(3,3),(4,4),(5,5)] 6 (by decide) ?_ ?_ (ihA (i + 1) (show d.servers.length - (i + 1) < d.servers.length - i from by omega) (show (i + 1)≤d.servers.length from by omega)))⟩
   ·exact lC (lI rfl) (lC (lI rfl) (lC (lI rfl) (lC (lI rfl) (lC (lI rfl) (lC (lI rfl) (lC (lR rfl) (lC (lR rfl) (lC (lR rfl) lN))))))))
   ·exact aU (kI rfl) (aU (kI rfl) (aU (kI rfl) (aU (kI rfl) (aU (kI rfl) (aU (kR rfl) aM)))))
 ·have g1:decide ((i:Int) < (d.servers.length:Int))=false:=decide_eq_false (by omega)
  refine Wq<|qW 28 29 rfl<|qK rfl<|Nl<|Wq<|Wo rfl ‹_›<|Wx ?_
  clear ihA
  obtain rfl:i=d.servers.length:=by omega
  rw [List.take_length]
  refine Wq<|qW 78 79 rfl<|qA rfl<|Nl<|Wq<|Wq<|qW 83 87 rfl<|qF rfl ty105 rfl<|qL rfl ty103 rfl<|qH rfl ty103<|qM rfl<|Nl ?_
  rw [show d.servers.map asnV=d.servers.map asnV++(d.members.take 0).map asnV from by simp]
  refine Wb<|W.loop_keep (α:=Nat) (fun x=>d.members.length - x) 6 (fun x=>[(1,.own 0 0),(3,.mref 1),(4,.mref 2),(5,.mref 3),(6,.mref 4),(7,.mref 5),(53,.base (.int .i64 (x:Int)))]) (fun x=>up (up (up (up (up (up mt 0 (some (dbC d))) 1 (some ([.mp (kdOf Tryz.prog 3) (setV (d.servers.map asnV++(d.members.take x).map asnV))]))) 2 (some ([.mp (kdOf Tryz.prog 9) (setV [])]))) 3 (some ([.mp (kdOf Tryz.prog 3) (setV [])]))) 4 (some ([.mp (kdOf Tryz.prog 23) (setV [])]))) 5 (some ([.mp (kdOf Tryz.prog 54) (setV [])]))) (fun x=>x≤d.members.length) 0 [(0,0),(1,1),(2,2),(3,3),(4,4),(5,5)] (.cons (t:=10) rfl (by exact .inl rfl) (.cons (t:=51) rfl (by exact .inl rfl) (.cons (t:=52) rfl (by exact .inl rfl) .nil))) (show 0≤d.members.length from Nat.zero_le _) (by decide) ?_ ?_ ?_
  ·exact lC (lI rfl) (lC (lI rfl) (lC (lI rfl) (lC (lI rfl) (lC (lI rfl) (lC (lI rfl) (lC (lR rfl) lN))))))
  ·exact aU (kI rfl) (aU (kI rfl) (aU (kI rfl) (aU (kI rfl) (aU (kI rfl) (aU (kR rfl) aM)))))
  rintro i hIB ihB
  try (dsimp only at hIB)
  try dsimp only [baseT,List.cons_append,List.nil_append]
  by_cases hc2:i < d.members.length
  ·have g2:decide ((i:Int) < (d.members.length:Int))=true:=decide_eq_true (by omega)
   have hme:d.members[i]∈d.members:=List.getElem_mem hc2
   have hkd:=kd_i64w hik (hd.asn _ (List.mem_append_right _ hme))
   have htk:=take_snoc asnV hc2
   have hout:Value.int .i64 d.members[i].asn ∉ d.servers.map asnV++(d.members.take i).map asnV:=fun h=>by
    rcases List.mem_append.1 h with h|h
    ·obtain ⟨m,hm,e⟩:=List.mem_map.1 h
     unfold asnV at e
     injection e with _ e
     exact hd.asnM _ hme m hm e.symm
    ·obtain ⟨m,hm,e⟩:=List.mem_map.1 h
     unfold asnV at e
     injection e with _ e
     have:=take_not hd.asnN (i:=i) (by simpa using hc2)
     rw [← List.map_take] at this
     exact this (by rw [List.getElem_map];exact List.mem_map.2 ⟨m,hm,e⟩)
   have hon:=onceI_any _ _ hout hkd
   rw [show d.servers.map asnV++(d.members.take i).map asnV++[Value.int .i64 d.members[i].asn]=d.servers.map asnV++(d.members.take (i + 1)).map asnV from by rw [htk,← List.append_assoc];rfl] at hon
   refine Wq<|qW 91 92 rfl<|qK rfl<|Nl<|Wq<|Wt rfl ‹_›<|Wu<|Wq<|Wb<|Wq<|qW 96 100 rfl<|qJ rfl rfl ty103 ty150 (by omega)<|Od rfl rfl (Lg rfl rfl ty150 rfl (mems_tk hc2))<|qB rfl ty150<|qS rfl ty150 (Sl rfl) rfl<|Nl<|qW 104 112 rfl<|qM rfl<|qF rfl ty150 rfl<|qL rfl ty3 rfl<|Od rfl rfl (LO.call1M (fr:=[]) (q:=1) rfl rfl hon fok189 (.mref rfl (.cons rfl (.pure rfl) .nil)) rfl rfl rfl (Cn _ _) (by decide) rfl)<|qM rfl<|gM rfl rfl<|qT rfl rfl rfl<|qA rfl<|Nl<|qW 116 118 rfl<|qZ rfl (iW _ (by omega))<|qM rfl<|Nl<|WL.renameL [(0,0),(1,1),(2,2),(3,3),(4,4),(5,5)] 6 (by decide) ?_ ?_ (ihB (i + 1) (show d.members.length - (i + 1) < d.members.length - i from by omega) (show (i + 1)≤d.members.length from by omega))
   ·exact lC (lI rfl) (lC (lI rfl) (lC (lI rfl) (lC (lI rfl) (lC (lI rfl) (lC (lI rfl) (lC (lR rfl) (lC (lR rfl) (lC (lR rfl) (lC (lR rfl) lN)))))))))
   ·exact aU (kI rfl) (aU (kI rfl) (aU (kI rfl) (aU (kI rfl) (aU (kI rfl) (aU (kR rfl) aM)))))
  ·have g2:decide ((i:Int) < (d.members.length:Int))=false:=decide_eq_false (by omega)
   refine Wq<|qW 91 92 rfl<|qK rfl<|Nl<|Wq<|Wo rfl ‹_›<|Wx ?_
   clear ihB
   refine Wq<|Wq<|qW 122 126 rfl<|qG rfl ty105 rfl (Tl rfl)<|qY rfl (hall) fok167 rfl<|qH rfl ty103<|qM rfl<|Nl<|Wb<|W.loop_keep (α:=Nat) (fun x=>A.length - x) 5 (fun x=>[(1,.own 0 0),(4,.mref 1),(5,.mref 2),(6,.mref 3),(7,.mref 4),(68,.base (.int .i64 (x:Int)))]) (fun x=>up (up (up (up (up mt 0 (some (dbC d))) 1 (some ([.mp (kdOf Tryz.prog 9) (setV ((A.take x).map nameV))]))) 2 (some ([.mp (kdOf Tryz.prog 3) (setV [])]))) 3 (some ([.mp (kdOf Tryz.prog 23) (setV [])]))) 4 (some ([.mp (kdOf Tryz.prog 54) (setV [])]))) (fun x=>x≤A.length) 0 [(0,0),(1,2),(2,3),(3,4),(4,5)] (.cons (t:=10) rfl (by exact .inl rfl) (.cons (t:=66) rfl (by exact .inl rfl) (.cons (t:=67) rfl (by exact .inl rfl) .nil))) (show 0≤A.length from Nat.zero_le _) (by decide) ?_ ?_ ?_
   ·exact lC (lI rfl) (lC (lI rfl) (lC (lI rfl) (lC (lI rfl) (lC (lI rfl) (lC (lR rfl) lN)))))
   ·exact aU (kI rfl) (aU (kI rfl) (aU (kI rfl) (aU (kI rfl) (aU (kR rfl) aM))))
   rintro i hIC ihC
   try (dsimp only at hIC)
   try dsimp only [baseT,List.cons_append,List.nil_append]
   by_cases hc3:i < A.length
   ·have g3:decide ((i:Int) < (A.length:Int))=true:=decide_eq_true (by omega)
    have hme:A[i]∈A:=List.getElem_mem hc3
    have htk:=take_snoc nameV hc3
    have hkd:kdOf Tryz.prog 9 (.string A[i].name):=kd_str hsk (hnA _ hme)
    have hout:Value.string A[i].name ∉ (A.take i).map nameV:=fun h=>by
     obtain ⟨m,hm,e⟩:=List.mem_map.1 h
     unfold nameV at e
     injection e with e
     have:=take_not hnames (i:=i) (by simpa using hc3)
     rw [← List.map_take] at this
     exact this (by rw [List.getElem_map];exact List.mem_map.2 ⟨m,hm,e⟩)
    have hon:=onceS_any _ _ hout hkd
    rw [show (A.take i).map nameV++[Value.string A[i].name]=(A.take (i + 1)).map nameV from htk.symm] at hon
    refine Wq<|qW 130 131 rfl<|qK rfl<|Nl<|Wq<|Wt rfl ‹_›<|Wu<|Wq<|Wb<|Wq<|qW 135 139 rfl<|qJ rfl rfl ty103 ty150 (by omega)<|Od rfl rfl (Lg rfl rfl ty150 rfl (mems_tk hc3))<|qB rfl ty150<|qS rfl ty150 (Sl rfl) rfl<|Nl<|qW 143 151 rfl<|qM rfl<|qF rfl ty150 rfl<|qL rfl ty9 rfl<|Od rfl rfl (LO.call1M (fr:=[]) (q:=1) rfl rfl hon fok190 (.mref rfl (.cons rfl (.pure rfl) .nil)) rfl rfl rfl (Cn _ _) (by decide) rfl)<|qM rfl<|gM rfl rfl<|qT rfl rfl rfl<|qA rfl<|Nl<|qW 155 157 rfl<|qZ rfl (iW _ (by omega))<|qM rfl<|Nl<|WL.renameL [(0,0),(1,1),(2,2),(3,3),(4,4)] 5 (by decide) ?_ ?_ (ihC (i + 1) (show A.length - (i + 1) < A.length - i from by omega) (show (i + 1)≤A.length from by omega))
    ·exact lC (lI rfl) (lC (lI rfl) (lC (lI rfl) (lC (lI rfl) (lC (lI rfl) (lC (lR rfl) (lC (lR rfl) (lC (lR rfl) (lC (lR rfl) lN))))))))
    ·exact aU (kI rfl) (aU (kI rfl) (aU (kI rfl) (aU (kI rfl) (aU (kR rfl) aM))))
   ·have g3:decide ((i:Int) < (A.length:Int))=false:=decide_eq_false (by omega)
    refine Wq<|qW 130 131 rfl<|qK rfl<|Nl<|Wq<|Wo rfl ‹_›<|Wx ?_
    clear ihC
    refine Wq<|Wq<|qW 161 165 rfl<|qG rfl ty105 rfl (Tl rfl)<|qY rfl (hpo) fok163 rfl<|qH rfl ty148<|qM rfl<|Nl<|Wb<|W.loop_keep (α:=Nat) (fun x=>ps.length - x) 3 (fun x=>[(5,.mref 0),(6,.mref 1),(7,.mref 2),(83,.base (.int .i64 (x:Int)))]) (fun x=>up (up (up mt 0 (some ([.mp (kdOf Tryz.prog 3) (setV ((ps.take x).map idV))]))) 1 (some ([.mp (kdOf Tryz.prog 23) (setV (macsV (ps.take x)))]))) 2 (some ([.mp (kdOf Tryz.prog 54) (setV (((ps.take x).flatMap adsP).map adV))]))) (fun x=>x≤ps.length) 0 [(0,2),(1,3),(2,4)] (.cons (t:=10) rfl (by exact .inl rfl) (.cons (t:=81) rfl (by exact .inl rfl) (.cons (t:=82) rfl (by exact .inl rfl) .nil))) (show 0≤ps.length from Nat.zero_le _) (by decide) ?_ ?_ ?_
    ·exact lC (lI rfl) (lC (lI rfl) (lC (lI rfl) (lC (lR rfl) lN)))
    ·exact aU (kI rfl) (aU (kI rfl) (aU (kI rfl) aM))
    rintro j hID ihD
    try (dsimp only at hID)
    try dsimp only [baseT,List.cons_append,List.nil_append]
    by_cases hc4:j < ps.length
    ·have g4:decide ((j:Int) < (ps.length:Int))=true:=decide_eq_true (by omega)
     have hsp:ps=ps.take j++ps[j]::ps.drop (j + 1):=by rw [← List.drop_eq_getElem_cons hc4,List.take_append_drop]
     have hids2:((ps.take j++ps[j]::ps.drop (j + 1)).map (·.id)).Nodup:=by rw [← hsp];exact hids
     have hmacs2:((ps.take j++ps[j]::ps.drop (j + 1)).flatMap (·.macs)).Nodup:=by rw [← hsp];exact hmacs
     have hads2:((ps.take j++ps[j]::ps.drop (j + 1)).flatMap adsP).Nodup:=by rw [← hsp];exact hads
     have hpi:=hprt ps[j] (List.getElem_mem hc4)
     have hQ:ps.take (j + 1)=ps.take j++[ps[j]]:=List.take_succ_eq_append_getElem hc4
     clear hsp
     refine Wq<|qW 169 170 rfl<|qK rfl<|Nl<|Wq<|Wt rfl ‹_›<|Wu<|Wq<|Wb<|Wq<|qW 174 178 rfl<|qJ rfl rfl ty148 ty157 (by omega)<|Od rfl rfl (Lg rfl rfl ty157 rfl (prts_tk hc4))<|qB rfl ty157<|qS rfl ty157 (Sl rfl) rfl<|Nl ?_
     generalize ps[j]=p at *
     generalize ps.take j=Q at *
     generalize ps.drop (j + 1)=rest at *
     have hidn:Value.int .i64 p.id ∉ Q.map idV:=fun h=>by
      obtain ⟨m,hm,e⟩:=List.mem_map.1 h
      unfold idV at e
      injection e with _ e
      rw [List.map_append,List.map_cons] at hids2
      exact nodup_mid hids2 (List.mem_map.2 ⟨m,hm,e⟩)
     have hon:=onceI_any _ _ hidn (kd_i64w hik hpi.id)
     rw [show Q.map idV++[Value.int .i64 p.id]=(Q++[p]).map idV from by rw [List.map_append];rfl] at hon
     have hadn:=fun n hn hz=>adK_not hads2 (n:=n) hn hz
     have hadk:∀ n,n < 2→kdOf Tryz.prog 54 (adV (adAt p n)):=fun n hn=>by
      match n,hn with
      | 0,_=>exact kd_ad hpi.h4 hpi.l4
      | 1,_=>exact kd_ad hpi.h6 hpi.l6
     have htk2:=fun n hn=>adC_tk2 p (n:=n) hn
     have hnx:=fun n hn=>adK_next (p:=p) (n:=n) hn
     have hpm:=hpi.macs
     have hnm:=hpi.nm
     have hmn:=fun (k:Nat) (hk:k < p.macs.length)=>mac_not hmacs2 hk
     have hk2:adK p 2=adsP p:=rfl
     have hk0:adK p 0=[]:=rfl
     generalize adK p=AK at *
     generalize adAt p=AT at *
     have hQa:(Q++[p]).flatMap adsP=Q.flatMap adsP++adsP p:=by simp
     have hQm:macsV (Q++[p])=macsV Q++p.macs.map macV:=by simp [macsV]
     generalize Q.flatMap adsP=QA at *
     generalize macsV Q=QM at *
     generalize hQI:(Q++[p]).map idV=QI at *
     refine Wq<|qW 182 190 rfl<|qM rfl<|qF rfl ty157 rfl<|qL rfl ty3 rfl<|Od rfl rfl (LO.call1M (fr:=[]) (q:=0) rfl rfl hon fok189 (.mref rfl (.cons rfl (.pure rfl) .nil)) rfl rfl rfl (Cn _ _) (by decide) rfl)<|qM rfl<|gM rfl rfl<|qT rfl rfl rfl<|qA rfl<|Nl<|Wq<|Wq<|qW 194 198 rfl<|qF rfl ty157 rfl<|qL rfl ty36 rfl<|qH rfl ty36<|qM rfl<|Nl ?_
     rw [show QM=QM++(p.macs.take 0).map macV from by simp]
     refine Wb<|W.loop_keep (α:=Nat) (fun x=>p.macs.length - x) 4 (fun x=>[(5,.mref 0),(6,.mref 1),(7,.mref 2),(16,.own 3 0),(97,.base (.int .i64 (x:Int)))]) (fun x=>up (up (up (up mt 0 (some ([.mp (kdOf Tryz.prog 3) (setV QI)]))) 1 (some ([.mp (kdOf Tryz.prog 23) (setV (QM++(p.macs.take x).map macV))]))) 2 (some ([.mp (kdOf Tryz.prog 54) (setV (QA.map adV))]))) 3 (some (prtC p))) (fun x=>x≤p.macs.length) 0 [(0,0),(1,1),(2,2),(3,176)] (.cons (t:=10) rfl (by exact .inl rfl) (.cons (t:=81) rfl (by exact .inl rfl) (.cons (t:=82) rfl (by exact .inl rfl) (.cons (t:=83) rfl (by exact .inl rfl) (.cons (t:=95) rfl (by exact .inl rfl) (.cons (t:=96) rfl (by exact .inl rfl) .nil)))))) (show 0≤p.macs.length from Nat.zero_le _) (by decide) ?_ ?_ ?_
     ·exact lC (lI rfl) (lC (lI rfl) (lC (lI rfl) (lC (lI rfl) (lC (lR rfl) lN))))
     ·exact aU (kR rfl) (aU (kI rfl) (aU (kI rfl) (aU (kI rfl) aM)))
     rintro k hIE ihE
     try (dsimp only at hIE)
     try dsimp only [baseT,List.cons_append,List.nil_append]
     by_cases hc5:k < p.macs.length
     ·have g5:decide ((k:Int) < (p.macs.length:Int))=true:=decide_eq_true (by omega)
      have hmk':=hpm _ (List.getElem_mem hc5)
      have hon2:=onceM_any _ _ hmk'.1 (hmn k hc5) (kd_mac hmk'.1 hmk'.2)
      have htk5:=take_snoc macV hc5
      rw [show QM++(p.macs.take k).map macV++[macV p.macs[k]]=QM++(p.macs.take (k + 1)).map macV from by rw [htk5,← List.append_assoc]] at hon2
      refine Wq<|qW 202 203 rfl<|qK rfl<|Nl<|Wq<|Wt rfl ‹_›<|Wu<|Wq<|Wb<|Wq<|qW 207 211 rfl<|qJ rfl rfl ty36 ty23 (by omega)<|Od rfl rfl (Lg rfl rfl ty23 rfl (macs_tk (fun m hm=>(hpm m hm).1) hc5)) (qB rfl ty23<|On rfl rfl (Sr rfl rfl rfl rfl rfl ty23 ((bytesC_len _).trans hmk'.1) (by decide) (sp_all ((bytesC_len _).trans hmk'.1)))<|Nl ?_)
      generalize p.macs[k]=mc at *
      refine qW 215 222 rfl<|qM rfl<|qG rfl ty23 rfl (bytes_tk hmk'.1)<|Od rfl rfl (LO.call1M (fr:=[]) (q:=1) rfl rfl hon2 fok191 (.mref rfl (.cons rfl (.pure purB) .nil)) rfl rfl rfl (Cn _ _) (by decide) rfl)<|qM rfl<|gM rfl rfl<|qT rfl rfl rfl<|qA rfl<|Nl<|qW 226 228 rfl<|qZ rfl (iW _ (by omega))<|qM rfl<|Nl<|WL.renameL [(0,0),(1,1),(2,2),(3,3)] 4 (by decide) ?_ ?_ (ihE (k + 1) (show p.macs.length - (k + 1) < p.macs.length - k from by omega) (show (k + 1)≤p.macs.length from by omega))
      ·exact lC (lI rfl) (lC (lI rfl) (lC (lI rfl) (lC (lI rfl) (lC (lR rfl) (lC (lR rfl) (lC (lR rfl) (lC (lR rfl) (lC (lR rfl) (lC (lR rfl) (lC (lR rfl) lN))))))))))
      ·exact aU (kR rfl) (aU (kI rfl) (aU (kI rfl) (aU (kI rfl) aM)))
     ·have g5:decide ((k:Int) < (p.macs.length:Int))=false:=decide_eq_false (by omega)
      refine Wq<|qW 202 203 rfl<|qK rfl<|Nl<|Wq<|Wo rfl ‹_›<|Wx ?_
      clear ihE
      obtain rfl:k=p.macs.length:=by omega
      rw [List.take_length,← hQm]
      refine Wq<|qW 232 239 rfl<|qF rfl ty157 rfl<|qG rfl ty54 rfl (Tl rfl)<|qF rfl ty157 rfl<|qG rfl ty54 rfl (Tl rfl)<|Od rfl rfl (LO.buildSlice rfl ty37 ty54 (by decide) (by decide) (.cons rfl rfl rfl rfl (Sl rfl) (.cons rfl rfl rfl rfl (Sl rfl) .nil)))<|Od rfl rfl (LO.len rfl rfl ty37)<|qM rfl<|Nl<|Wy (t:=112) rfl rfl (Tl rfl) rfl ?_
      rw [show QA=QA++AK 0 from by rw [hk0,List.append_nil]]
      refine Wb<|W.loop_keep (α:=Nat) (fun x=>2 - x) 3 (fun x=>[(5,.mref 0),(6,.mref 1),(7,.mref 2),(114,.base (.int .i64 (x:Int)))]) (fun x=>up (up (up mt 0 (some ([.mp (kdOf Tryz.prog 3) (setV QI)]))) 1 (some ([.mp (kdOf Tryz.prog 23) (setV (macsV (Q++[p])))]))) 2 (some ([.mp (kdOf Tryz.prog 54) (setV ((QA++AK x).map adV))]))) (fun x=>x≤2) 0 [(0,0),(1,1),(2,2)] (.cons (t:=10) rfl (by exact .inl rfl) (.cons (t:=81) rfl (by exact .inl rfl) (.cons (t:=82) rfl (by exact .inl rfl) (.cons (t:=83) rfl (by exact .inl rfl) (.cons (t:=112) rfl (by exact .inl rfl) (.cons (t:=113) rfl (by exact .inl rfl) .nil)))))) (show 0≤2 from Nat.zero_le _) (by decide) ?_ ?_ ?_
      ·exact lC (lI rfl) (lC (lI rfl) (lC (lI rfl) (lC (lR rfl) lN)))
      ·exact aU (kI rfl) (aU (kI rfl) (aU (kI rfl) aM))
      rintro n hIG ihG
      try (dsimp only at hIG)
      try dsimp only [baseT,List.cons_append,List.nil_append]
      by_cases hc6:n < 2
      ·have g6:decide ((n:Int) < 2)=true:=decide_eq_true (by omega)
       have hadn1:=hadn n hc6
       have hkd1:=hadk n hc6
       have hnx1:=hnx n hc6
       have htk1:=htk2 n hc6
       generalize AT n=a at *
       refine Wq<|qW 243 244 rfl<|qK rfl<|Nl<|Wq<|Wt rfl ‹_›<|Wu<|Wq<|Wb<|Wq<|qW 248 252 rfl<|qJ rfl rfl ty37 ty54 (by omega)<|Od rfl rfl (Lg rfl rfl ty54 rfl htk1)<|qB rfl ty54<|qS rfl ty54 (Sl rfl) rfl<|Nl ?_
       by_cases hz:zeroA a=true
       ·have he:eqA a ⟨false,0,0⟩=true:=hz
        rw [if_pos hz,List.append_nil] at hnx1
        refine qW 256 268 rfl<|qG rfl ty54 rfl (Tl rfl)<|Od rfl rfl (Bs rfl ty54 .nil)<|Od rfl rfl (LO.eql_ad_b a ⟨false,0,0⟩ he rfl rfl rfl)<|qM rfl<|qD rfl rfl rfl<|qD rfl rfl rfl<|qD rfl rfl rfl<|qT rfl rfl rfl<|qM rfl<|gM rfl rfl<|qT rfl rfl rfl<|qA rfl<|Nl<|qW 272 274 rfl<|qZ rfl (iW _ (by omega))<|qM rfl<|Nl ?_
        rw [← hnx1]
        refine WL.renameL [(0,0),(1,1),(2,2)] 3 (by decide) ?_ ?_ (ihG (n + 1) (show 2 - (n + 1) < 2 - n from by omega) (show (n + 1)≤2 from by omega))
        ·exact lC (lI rfl) (lC (lI rfl) (lC (lI rfl) (lC (lR rfl) (lC (lR rfl) (lC (lR rfl) (lC (lR rfl) (lC (lR rfl) (lC (lR rfl) (lC (lR rfl) lN)))))))))
        ·exact aU (kI rfl) (aU (kI rfl) (aU (kI rfl) aM))
       ·have he:eqA a ⟨false,0,0⟩=false:=by simpa [zeroA] using hz
        rw [if_neg hz] at hnx1
        have hon3:=onceA_any _ a (not_map (fun _ _=>adV_inj) (hadn1 (by simpa using hz))) hkd1
        rw [show (QA++AK n).map adV++[adV a]=(QA++AK (n + 1)).map adV from by rw [hnx1,← List.append_assoc,List.map_append (l₂:=[a])];rfl] at hon3
        refine qW 256 268 rfl<|qG rfl ty54 rfl (Tl rfl)<|Od rfl rfl (Bs rfl ty54 .nil)<|Od rfl rfl (LO.eql_ad_b a ⟨false,0,0⟩ he rfl rfl rfl)<|qM rfl<|gM rfl rfl<|gG rfl rfl ty54 rfl (Tl rfl)<|qU rfl rfl rfl (LO.call1M (fr:=[]) (q:=2) rfl rfl hon3 fok192 (.mref rfl (.cons rfl (.pure rfl) .nil)) rfl rfl rfl (Cn _ _) (by decide) rfl)<|qP rfl rfl rfl<|qM rfl<|gM rfl rfl<|qT rfl rfl rfl<|qA rfl<|Nl<|qW 272 274 rfl<|qZ rfl (iW _ (by omega))<|qM rfl<|Nl<|WL.renameL [(0,0),(1,1),(2,2)] 3 (by decide) ?_ ?_ (ihG (n + 1) (show 2 - (n + 1) < 2 - n from by omega) (show (n + 1)≤2 from by omega))
        ·exact lC (lI rfl) (lC (lI rfl) (lC (lI rfl) (lC (lR rfl) (lC (lR rfl) (lC (lR rfl) (lC (lR rfl) (lC (lR rfl) (lC (lR rfl) (lC (lR rfl) lN)))))))))
        ·exact aU (kI rfl) (aU (kI rfl) (aU (kI rfl) aM))
      ·have g6:decide ((n:Int) < 2)=false:=decide_eq_false (by omega)
       refine Wq<|qW 243 244 rfl<|qK rfl<|Nl<|Wq<|Wo rfl ‹_›<|Wx ?_
       clear ihG
       obtain rfl:n=2:=by omega
       rw [hk2,← hQa,← hQI,← hQ]
       refine qW 278 280 rfl<|qZ rfl (iW _ (by omega))<|qM rfl<|Nl<|WL.renameL [(0,0),(1,1),(2,2)] 3 (by decide) ?_ ?_ (ihD (j + 1) (show ps.length - (j + 1) < ps.length - j from by omega) (show (j + 1)≤ps.length from by omega))
       ·exact lC (lI rfl) (lC (lI rfl) (lC (lI rfl) (lC (lR rfl) (lC (lR rfl) (lC (lR rfl) (lC (lR rfl) lN))))))
       ·exact aU (kI rfl) (aU (kI rfl) (aU (kI rfl) aM))
    ·have g4:decide ((j:Int) < (ps.length:Int))=false:=decide_eq_false (by omega)
     refine Wq<|qW 169 170 rfl<|qK rfl<|Nl<|Wq<|Wo rfl ‹_›<|Wx<|Wq<|qW 284 286 rfl<|qM rfl<|qA rfl<|Nl<|Wz ⟨.inl rfl,_,mt,Rc (Rt0 rfl) (Rv),aM,?_⟩
     exact ⟨rfl,rfl⟩
theorem mcheck_any (d:Db) (hd:DbOk d) (ho:Once d) (h0:1≤(d.servers++d.members).length) (hps:(allP d).length≤1000) (hpo:∀ p,p∈allP d→PrtOk p):AFn Tryz.prog 119 0 [.agg (dbC d)] mt (.base (.int .i64 0)) mt:=by
 refine AFn.eq Tryz.func119 rfl rfl (Nat.le_of_ble_eq_true rfl) ?_
 have c1:=fits_any d hd h0
 have c2:=alone_any d hd h0
 have c3:=inside_any d hd h0 hps hpo
 have c4:=different_any d ho h0 hps
 refine Wq<|qW 0 2 rfl<|qC rfl<|qA rfl<|Nl<|Wq<|Wb<|Wq<|qW 6 10 rfl<|qG rfl ty105 rfl (Tl rfl)<|qY rfl (c1) fok158 rfl<|qO rfl<|qA rfl<|Nl<|Wo rfl rfl<|Wq<|qW 19 23 rfl<|qG rfl ty105 rfl (Tl rfl)<|qY rfl (c2) fok159 rfl<|qO rfl<|qA rfl<|Nl<|Wo rfl rfl<|Wq<|qW 32 36 rfl<|qG rfl ty105 rfl (Tl rfl)<|qY rfl (c3) fok160 rfl<|qO rfl<|qA rfl<|Nl<|Wo rfl rfl<|Wq<|qW 45 49 rfl<|qG rfl ty105 rfl (Tl rfl)<|qY rfl (c4) fok161 rfl<|qO rfl<|qA rfl<|Nl<|Wo rfl rfl<|Wu<|Wq<|qW 58 59 rfl<|qA rfl<|Nl<|Wz ⟨.inl rfl,_,mt,Rc (Rt0 rfl) (Rv),aM,?_⟩
 exact ⟨rfl,rfl⟩
def ownG (l:List Mem) (n:Int):Int:=match ownF l n with
 | some m=>m.asn
 | none=>0
def ownB (l:List Mem) (n:Int):Bool:=(ownF l n).isSome
theorem ownV_eq (l:List Mem) (n:Int):ownV l n=.tup [.base (.int .i64 (ownG l n)),.base (.bool (ownB l n))]:=by
 unfold ownV ownG ownB
 cases ownF l n<;>rfl
set_option maxHeartbeats 1000000 in
theorem crules_any (d:Db) (hd:DbOk d) (ho:Once d) (h0:1≤(d.servers++d.members).length) (hl:1≤(allP d).length∧(allP d).length < 20) (hpo:∀ p,p∈allP d→PrtOk p) (hio:InOrder (allP d)) (rate burst:Int) (hr:0≤rate∧rate≤burst∧burst≤1048576) :
 AFn Tryz.prog 67 0 [.agg (dbC d),.base (.int .i64 rate),.base (.int .i64 burst)] mt (.tup [.isl (rulesC ((allP d).map (ruleOf (ownG (d.servers++d.members)) rate burst))) ((allP d).map (ruleOf (ownG (d.servers++d.members)) rate burst)).length,.base (.int .i64 0)]) mt:=by
 refine AFn.eq Tryz.func67 rfl rfl (Nat.le_of_ble_eq_true rfl) ?_
 have hck:=mcheck_any d hd ho h0 (by omega) hpo
 have hps:=portsO_any d h0 ho.sl ho.ml hl (fun p hp=>⟨fun x hx=>((hpo p hp).macs x hx).1,(hpo p hp).nm⟩) hio
 have hown:=fun n=>mowner_any d n h0 ho.sl ho.ml (by omega)
 simp only [ownV_eq] at hown
 generalize ownG (d.servers++d.members)=g at *
 generalize ownB (d.servers++d.members)=gb at *
 generalize allP d=ps at *
 obtain ⟨rs,hrs⟩:∃ rs,rs=ps.map (ruleOf g rate burst):=⟨_,rfl⟩
 rw [← hrs]
 have hrl:rs.length=ps.length:=by rw [hrs,List.length_map]
 have k1:decide (burst < 0)=false:=decide_eq_false (by omega)
 have k2:decide (1048576 < burst)=false:=decide_eq_false (by omega)
 have k3:decide (rate < 0)=false:=decide_eq_false (by omega)
 have k4:decide (burst < rate)=false:=decide_eq_false (by omega)
 clear ho hd hio hpo h0
 refine Wq<|qW 0 3 rfl<|qC rfl<|qA rfl<|qA rfl<|Nl<|Wq<|Wq<|qW 7 10 rfl<|qG rfl ty105 rfl (Tl rfl)<|qY rfl (hck) fok119 rfl<|qA rfl<|Nl<|Wq<|qW 14 16 rfl<|qM rfl<|qN rfl<|Nl<|Wo rfl rfl<|Wu<|Wq<|Wq<|qW 27 42 rfl<|qM rfl<|qK rfl<|qM rfl<|gM rfl ‹_›<|gGt rfl ‹_›<|qP rfl ‹_› rfl<|qM rfl<|gM rfl ‹_›<|gK rfl ‹_›<|qP rfl ‹_› rfl<|qM rfl<|gM rfl ‹_›<|gM rfl ‹_›<|gGt rfl ‹_›<|qP rfl ‹_› rfl<|Nl<|Wo rfl ‹_›<|Wu<|Wq<|qW 52 53 rfl<|qA rfl<|Nl<|W.name 53 (53 + 1) (t:=9) (sz:=8) rfl (by decide) (by decide)<|Wq<|Wq<|qW 57 61 rfl<|qG rfl ty105 rfl (Tl rfl)<|qY rfl (hps) fok120 rfl<|qH rfl ty148<|qM rfl<|Nl<|Wb<|W.rename [(0,0),(1,53)] 2 (T':=up (up (up (up (up (up (up mt 1 (some (.base (.int .i64 rate)))) 2 (some (.base (.int .i64 burst)))) 3 (some (.own 0 0))) 9 (some (.osl 1 0 0 8))) 35 (some (.isl (prtsC ps) ps.length))) 36 (some (.base (.int .i64 (ps.length:Int))))) 37 (some (.base (.int .i64 (0:Int))))) (H':=up (up mt 0 (some (dbC d))) 1 (some (rulesC (rs.take 0)))) (by decide) ?_ ?_ ?_
 ·exact aU (lR rfl) (aU (lR rfl) (aU (lR rfl) (aU (lI rfl) (aU (lI rfl) (aU (lR rfl) (aU (lR rfl) aM))))))
 ·exact aU (kR rfl) (aU (kR rfl) aM)
 refine W.loop_ind (α:=Nat) (fun x=>ps.length - x) 2 (fun x=>up (up (up (up (up (up (up mt 1 (some (.base (.int .i64 rate)))) 2 (some (.base (.int .i64 burst)))) 3 (some (.own 0 0))) 9 (some (.osl 1 0 x 8))) 35 (some (.isl (prtsC ps) ps.length))) 36 (some (.base (.int .i64 (ps.length:Int))))) 37 (some (.base (.int .i64 (x:Int))))) (fun x=>up (up mt 0 (some (dbC d))) 1 (some (rulesC (rs.take x)))) (fun x=>x≤ps.length) 0 (show 0≤ps.length from Nat.zero_le _) ?_
 rintro i hIA ihA
 try (dsimp only at hIA)
 try dsimp only
 by_cases hc:i < ps.length
 ·have g1:decide ((i:Int) < (ps.length:Int))=true:=decide_eq_true (by omega)
  have hri:rs.take (i + 1)=rs.take i++[ruleOf g rate burst ps[i]]:=by
   rw [hrs,List.take_succ_eq_append_getElem (by simpa using hc)]
   simp
  have hti:(rs.take i).length=i:=by rw [List.length_take];omega
  refine Wq<|qW 65 66 rfl<|qK rfl<|Nl<|Wq<|Wt rfl ‹_›<|Wu<|Wq<|Wb<|Wq<|qW 70 74 rfl<|qJ rfl rfl ty148 ty157 (by omega)<|Od rfl rfl (Lg rfl rfl ty157 rfl (prts_tk hc))<|qB rfl ty157<|qS rfl ty157 (Sl rfl) rfl<|Nl ?_
  generalize ps[i]=p at *
  have hgi:=hown p.id
  obtain ⟨id,sw,sp,macs,v4,v6⟩:=p
  dsimp only at hgi
  have o4:=oneA_any v4
  have o6:=oneA_any v6
  refine Wq<|qW 78 87 rfl<|qG rfl ty105 rfl (Tl rfl)<|qF rfl ty157 rfl<|qL rfl ty3 rfl<|qY rfl (hgi) fok121 rfl<|qM rfl<|qX rfl<|qX rfl<|qA rfl<|qA rfl<|Nl<|Wd 91 111 (by decide) rfl mixed rfl<|qM rfl<|qF rfl ty157 rfl<|qL rfl ty3 rfl<|qM rfl<|qF rfl ty157 rfl<|qL rfl ty3 rfl<|qF rfl ty157 rfl<|qL rfl ty36 rfl<|qF rfl ty157 rfl<|qG rfl ty54 rfl (Tl rfl)<|qY rfl (o4) fok122 rfl<|qF rfl ty157 rfl<|qG rfl ty54 rfl (Tl rfl)<|qY rfl (o6) fok122 rfl<|qM rfl<|qM rfl<|Od rfl rfl (Bs rfl ty39 (.cons rfl rfl rfl rfl (Sl rfl) (.cons rfl rfl rfl rfl (Sl rfl) (.cons rfl rfl rfl rfl (Sl rfl) (.cons rfl rfl rfl rfl (Sl rfl) (.cons rfl rfl rfl rfl (Sl rfl) (.cons rfl rfl rfl rfl (Sl rfl) (.cons rfl rfl rfl rfl (Sl rfl) (.cons rfl rfl rfl rfl (Sl rfl) .nil)))))))))<|Od rfl rfl (LO.buildSlice rfl ty30 ty39 (by decide) (by decide) (.cons rfl rfl rfl rfl (Sl rfl) .nil))<|Od rfl rfl (Lap rfl rfl (Sso rfl rfl (Tl rfl)) rfl (rules_all hti) ty30 ty30 ty39 (by decide) (by omega) (by omega) (by decide))<|qA rfl<|Nl ⟨by kernel_rfl,?_⟩
  rw [show rulesC (rs.take i)++[.base (.int .i64 id),.base (.int .i64 (g id)),.base (.int .i64 sw),.isl (macsC macs) macs.length,.isl (adsC (ad1 v4)) (ad1 v4).length,.isl (adsC (ad1 v6)) (ad1 v6).length,.base (.int .i64 rate),.base (.int .i64 burst)]=rulesC (rs.take (i + 1)) from by rw [hri];simp [rulesC,ruleC,ruleOf]]
  refine qW 115 117 rfl<|qZ rfl (iW _ (by omega))<|qM rfl<|Nl<|WL.rename [(0,0),(1,109)] 2 (by decide) ?_ ?_ (ihA (i + 1) (show ps.length - (i + 1) < ps.length - i from by omega) (show (i + 1)≤ps.length from by omega))
  ·exact aU (lR rfl) (aU (lR rfl) (aU (lR rfl) (aU (lI rfl) (aU (lI rfl) (aU (lR rfl) (aU (lR rfl) aM))))))
  ·exact aU (kP rfl (rulesC_pure _)) (aU (kR rfl) aM)
 ·have g1:decide ((i:Int) < (ps.length:Int))=false:=decide_eq_false (by omega)
  refine Wq<|qW 65 66 rfl<|qK rfl<|Nl<|Wq<|Wo rfl ‹_›<|Wx ?_
  clear ihA
  obtain rfl:i=ps.length:=by omega
  rw [← hrl,List.take_length]
  refine Wq<|qW 121 124 rfl<|qM rfl<|qA rfl<|qA rfl<|Nl<|Wy (t:=6) rfl rfl (rules_all rfl) (rulesC_pure _)<|Wz ⟨.inl rfl,_,mt,(Rc (Rt0 rfl) (Rc (Rt0 rfl) Rv)),aM,?_⟩
  exact ⟨rfl,rfl⟩
theorem DbFine.pok {l:List Int} {d:Db} (h:DbFine l d):∀ p,p∈allP d→PrtOk p:=fun p hp=>by
 obtain ⟨i,hi,rfl⟩:=List.getElem_of_mem hp
 have:=h.len
 exact (h.good i hi).ok (by omega) (by omega)
theorem DbFine.ord {l:List Int} {d:Db} (h:DbFine l d):InOrder (allP d):=fun i hi=>by
 have h1:=(h.good i (by omega)).id
 have h2:=(h.good (i + 1) hi).id
 omega
theorem DbFine.some {l:List Int} {d:Db} (h:DbFine l d):1≤(d.servers++d.members).length:=by
 have h1:=h.len
 unfold allP at h1
 generalize d.servers++d.members=A at *
 match A with
 | []=>simp at h1
 | x::A=>simp
def gOf (d:Db):Int→Int:=ownG (d.servers++d.members)
theorem DbFine.rules {l:List Int} {d:Db} (h:DbFine l d) (rate burst:Int) (hr:0≤rate∧rate≤burst∧burst≤1048576) :
 AFn Tryz.prog 67 0 [.agg (dbC d),.base (.int .i64 rate),.base (.int .i64 burst)] mt (.tup [.isl (rulesC ((allP d).map (ruleOf (gOf d) rate burst))) ((allP d).map (ruleOf (gOf d) rate burst)).length,.base (.int .i64 0)]) mt :=
 crules_any d h.ok h.once h.some ⟨by have:=h.len;omega,by have:=h.len;omega⟩ h.pok h.ord rate burst hr
set_option maxHeartbeats 4000000 in
theorem setting10_any (l:List Int) (hl:l.length≤9223372036854775807) :
 ∃ (ld:List Int) (d:Db) (j:Nat) (f:Fr) (hj:j < (allP d).length),(DbFine ld d∧FrY f) ∧
  AFn Tryz.prog 31 0 [.isl (l.map fun z=>.base (.int .i64 z)) l.length] mt (.tup [.isl (rulesC ((allP d).map (ruleOf (gOf d) 2 3))) ((allP d).map (ruleOf (gOf d) 2 3)).length,.agg (ruleC (ruleOf (gOf d) 2 3 (allP d)[j])),.agg (frC f)]) mt:=by
 have hnew:=new_any l
 obtain ⟨vd,Hd,hdb,d,a1,hmade,rfl,rfl⟩:=database_any l 0 hl
 have hfine:=hmade.fine
 have hlen:=hfine.len
 have hru:=hfine.rules 2 3 (by decide)
 have hrl:((allP d).map (ruleOf (gOf d) 2 3)).length=(allP d).length:=List.length_map _
 obtain ⟨j,hj,hjb⟩:=nat_of (nextV_bd l a1 (((allP d).map (ruleOf (gOf d) 2 3)).length:Int) (by omega))
 have n4:=next_any l a1 (((allP d).map (ruleOf (gOf d) 2 3)).length:Int) (by omega) (by omega) hl
 rw [hj] at n4
 have hj2:j < (allP d).length:=by omega
 have tJ:=rules_tk (l:=(allP d).map (ruleOf (gOf d) 2 3)) (k:=j) (by omega)
 rw [List.getElem_map] at tJ
 have hrok:=hfine.rok (gOf d) 2 3
 have hone:RlOk (ruleOf (gOf d) 2 3 (allP d)[j]):=hrok _ (List.mem_map.2 ⟨_,List.getElem_mem hj2,rfl⟩)
 obtain ⟨_,_,hfr,f,a3,hfx,rfl,rfl⟩:=frame_any l (nextAt l a1) (ruleOf (gOf d) 2 3 (allP d)[j]) ((allP d).map (ruleOf (gOf d) 2 3)) hone hrok (by omega) (by omega) hl
 refine ⟨_,d,j,f,hj2,⟨hfine,hfx⟩,?_⟩
 refine AFn.eq Tryz.func31 rfl rfl (Nat.le_of_ble_eq_true rfl) ?_
 have p6:=hfx.ok.d6
 have q6:=hfx.ok.s6
 have hnm:=fun r hr=>(hrok r hr).nm.1
 have hnP:=hone.nm.1
 obtain ⟨fd,fs,fv,ft,fx⟩:=f
 dsimp only at p6 q6
 obtain ⟨p0,p1,p2,p3,p4,p5,rfl⟩:=six_of p6
 obtain ⟨q0,q1,q2,q3,q4,q5,rfl⟩:=six_of q6
 generalize (allP d)[j]=P at *
 have hn0:((P.macs.length:Int) == 0)=false:=by
  have:1≤P.macs.length:=hnP
  simpa using (show (P.macs.length:Int)≠0 by omega)
 generalize hgr:(allP d).map (ruleOf (gOf d) 2 3)=rs at *
 have hr0:((rs.length:Int) == 0)=false:=by simpa using (show (rs.length:Int)≠0 by omega)
 have hj3:j < rs.length:=by omega
 clear hfine hmade hrok hone hj hfx
 refine Wq<|qW 0 3 rfl<|qA rfl<|qB rfl ty39<|qB rfl ty26<|Nl<|Wq<|qW 7 10 rfl<|qM rfl<|Od rfl rfl (CN (fr:=[]) rfl rfl (hnew) fok16 (.cons rfl (.pure rfl) .nil) rfl (by decide))<|qA rfl<|Nl<|Wq<|qW 14 22 rfl<|qM rfl<|Od rfl rfl (C1 (fr:=[]) rfl rfl (hdb) fok46 (.own rfl rfl .nil) rfl rfl rfl (Cn _ _) (by decide) rfl)<|qY rfl (hru) fok67 rfl<|qM rfl<|qX rfl<|qX rfl<|qA rfl<|qA rfl<|Nl<|Wq<|Wq<|qW 26 29 rfl<|qM rfl<|qH rfl ty30<|qE rfl<|Nl<|Wo rfl ‹_›<|Wu<|Wq<|qW 42 51 rfl<|qM rfl<|qM rfl<|qM rfl<|qH rfl ty30<|Od rfl rfl (C1 (fr:=[]) rfl rfl (n4) fok49 (.own rfl rfl (.cons rfl (.pure rfl) .nil)) rfl rfl rfl (Cn _ _) (by decide) rfl)<|qJ rfl rfl ty30 ty39 (by omega)<|Od rfl rfl (Lg rfl rfl ty39 rfl tJ)<|qB rfl ty39<|qS rfl ty39 (Sl rfl) rfl<|Nl ?_
 unfold ruleOf
 refine Wq<|Wq<|qW 55 59 rfl<|qF rfl ty39 rfl<|qL rfl ty36 rfl<|qH rfl ty36<|qE rfl<|Nl<|Wo rfl ‹_›<|Wu<|Wq<|Wq<|qW 72 75 rfl<|qM rfl<|qH rfl ty30<|qM rfl<|Nl<|Wb<|W.loop_keep (α:=Nat) (fun x=>rs.length - x) 4 (fun x=>[(3,.own 0 0),(4,.own 1 0),(5,.own 2 0),(8,.own 3 0),(39,.base (.int .i64 (x:Int)))]) (fun x=>up (up (up (up mt 0 (some ([.base (.int .i64 0),.base (.int .i64 0),.base (.int .i64 0),.nils,.nils,.nils,.base (.int .i64 0),.base (.int .i64 0)]))) 1 (some ([.base (.int .u8 0),.base (.int .u8 0),.base (.int .u8 0),.base (.int .u8 0),.base (.int .u8 0),.base (.int .u8 0),.base (.int .u8 0),.base (.int .u8 0),.base (.int .u8 0),.base (.int .u8 0),.base (.int .u8 0),.base (.int .u8 0),.base (.int .i64 0),.base (.int .i64 0),.nils]))) 2 (some (deckC l (nextAt l a1)))) 3 (some (ruleC ⟨P.id,gOf d P.id,P.sw,P.macs,ad1 P.v4,ad1 P.v6,2,3⟩))) (fun x=>x≤rs.length) 0 [(0,1),(1,2),(2,8),(3,49)] (.cons (t:=6) rfl (by exact .inl rfl) (.cons (t:=37) rfl (by exact .inl rfl) (.cons (t:=38) rfl (by exact .inl rfl) .nil))) (show 0≤rs.length from Nat.zero_le _) (by decide) ?_ ?_ ?_
 ·exact lC (lI rfl) (lC (lI rfl) (lC (lI rfl) (lC (lI rfl) (lC (lR rfl) lN))))
 ·exact aU (kR rfl) (aU (kR rfl) (aU (kR rfl) (aU (kR rfl) aM)))
 rintro i hIA ihA
 try (dsimp only at hIA)
 try dsimp only [baseT,List.cons_append,List.nil_append]
 by_cases hc:i < rs.length
 ·have g1:decide ((i:Int) < (rs.length:Int))=true:=decide_eq_true (by omega)
  have hni:=hnm _ (List.getElem_mem hc)
  refine Wq<|qW 79 80 rfl<|qK rfl<|Nl<|Wq<|Wt rfl ‹_›<|Wu<|Wq<|Wb<|Wq<|qW 84 88 rfl<|qJ rfl rfl ty30 ty39 (by omega)<|Od rfl rfl (Lg rfl rfl ty39 rfl (rules_tk hc))<|qB rfl ty39<|qS rfl ty39 (Sl rfl) rfl<|Nl ?_
  generalize rs[i]=r at *
  have hn1:((r.macs.length:Int) == 0)=false:=by simpa using (show (r.macs.length:Int)≠0 by omega)
  refine Wq<|qW 92 96 rfl<|qF rfl ty39 rfl<|qL rfl ty36 rfl<|qH rfl ty36<|qE rfl<|Nl<|Wo rfl ‹_›<|Wu<|qW 109 111 rfl<|qZ rfl (iW _ (by omega))<|qM rfl<|Nl<|WL.renameL [(0,0),(1,1),(2,2),(3,3)] 4 (by decide) ?_ ?_ (ihA (i + 1) (show rs.length - (i + 1) < rs.length - i from by omega) (show (i + 1)≤rs.length from by omega))
  ·exact lC (lI rfl) (lC (lI rfl) (lC (lI rfl) (lC (lI rfl) (lC (lR rfl) (lC (lR rfl) (lC (lR rfl) (lC (lR rfl) lN)))))))
  ·exact aU (kR rfl) (aU (kR rfl) (aU (kR rfl) (aU (kR rfl) aM)))
 ·have g1:decide ((i:Int) < (rs.length:Int))=false:=decide_eq_false (by omega)
  refine Wq<|qW 79 80 rfl<|qK rfl<|Nl<|Wq<|Wo rfl ‹_›<|Wx ?_
  clear ihA
  refine Wq<|Wd 115 124 (by decide) rfl mixed rfl<|qM rfl<|qG rfl ty39 rfl (Tl rfl)<|qM rfl<|qG rfl ty39 rfl (Tl rfl)<|qM rfl<|Od rfl rfl (C1 (fr:=[]) rfl rfl (hfr) fok51 (.own rfl rfl (.cons rfl (.pure rfl) (.cons rfl (.pure rfl) .nil))) rfl rfl rfl (Cn _ _) (by decide) rfl)<|qA rfl<|qS rfl ty39 (Sl rfl) rfl<|qS rfl ty26 (Sl rfl) rfl<|Nl ⟨by kernel_rfl,(Wz ⟨.inl rfl,_,mt,(Rc (Rt0 rfl) (Rc (Ra0 rfl rfl ty39 rfl (Tl rfl)) (Rc (Ra0 rfl rfl ty26 rfl (Tl rfl)) Rv))),aM,?_⟩)⟩
  exact ⟨rfl,rfl⟩
theorem arpB_28 {m:List Int} {s d:Ad} (h6:m.length=6) (hs:ip4 s=true) (hd:ip4 d=true):(arpB (reqA m s d)).length=28:=arpB_len h6 rfl (ip4_v6 hs) (ip4_v6 hd)
theorem chq_req {r:Rl} {m:List Int} {s d:Ad} (h6:m.length=6) (hm:m∈r.macs) (hs:ip4 s=true) (hd:ip4 d=true) (u1:U64 s.hi∧U64 s.lo) (u2:U64 d.hi∧U64 d.lo) (hi:in4 d=true):chqV r (reqF m (reqA m s d))=if hasA r.v4 s=true then 0 else 7:=by
 obtain ⟨b1,b2⟩:=arp_back (a:=reqA m s d) h6 rfl (.inl rfl) (reqA_ok hs hd) u1 u2
 unfold chqV resolV
 have hl:(reqF m (reqA m s d)).data.length=28:=arpB_28 h6 hs hd
 have k1:decide ((1500:Int) < ((reqF m (reqA m s d)).data.length:Int))=false:=decide_eq_false (by omega)
 have k2:decide ((reqF m (reqA m s d)).src∈r.macs)=true:=decide_eq_true hm
 have k3:resM (reqF m (reqA m s d)).dst=false:=by show resM bcM=false;decide
 have k4:((reqF m (reqA m s d)).vl != 0)=false:=rfl
 have k5:((reqF m (reqA m s d)).ty == 2054)=true:=by show ((2054:Int) == 2054)=true;decide
 have k6:arpOf (reqF m (reqA m s d)).data=reqA m s d:=b1
 have k7:arpE (reqF m (reqA m s d)).data=0:=b2
 have k8:decide ((reqF m (reqA m s d)).dst=bcM)=true:=decide_eq_true rfl
 have k9:decide ((reqA m s d).fm=(reqF m (reqA m s d)).src)=true:=decide_eq_true rfl
 rw [k1,k2,k3,k4,k5,k6,k7,k8,k9]
 unfold chqB resolF
 show (if (false:Bool)=true then (11:Int) else _)=_
 rw [show (reqA m s d).fr=s from rfl,show (reqA m s d).tt=d from rfl,hi]
 cases hasA r.v4 s<;>simp
theorem four_in4 {n:Int} {p:Prt} (hg:PGood n p) (h0:1≤n) (h1:n≤14) (hz:p.v4≠⟨false,0,0⟩):in4 p.v4=true:=by
 have e:p.v4=fourA n:=by
  rcases hg.a with ⟨e,_⟩|⟨e,_⟩|⟨e,_⟩
  ·exact e
  ·exact absurd e hz
  ·exact e
 rw [e]
 unfold in4 fourA
 simp
 omega
set_option maxHeartbeats 4000000 in
theorem awake10_any:AFn Tryz.prog 30 0 [] mt (.base (.bool true)) mt:=by
 refine AFn.eq Tryz.func30 rfl rfl (Nat.le_of_ble_eq_true rfl) ?_
 obtain ⟨vd,Hd,hdb,d,a1,hmade,rfl,rfl⟩:=database_any [] 0 (by decide)
 have hfine:=hmade.fine
 have hlen:=hfine.two rfl
 have hru:=hfine.rules 1 2 (by decide)
 have hrok:=hfine.rok (gOf d) 1 2
 have hz0:=hfine.nil rfl _ (List.getElem_mem (show 0 < (allP d).length by omega))
 have hz1:=hfine.nil rfl _ (List.getElem_mem (show 1 < (allP d).length by omega))
 have hne:(allP d)[1].v4≠(allP d)[0].v4:=fun e=>by
  have h1:=hfine.uniq (List.getElem_mem (show 1 < (allP d).length by omega)) (List.getElem_mem (show 0 < (allP d).length by omega)) (v4_in hz1).1 (e ▸ (v4_in hz0).1)
  have i0:=(hfine.good 0 (by omega)).id
  have i1:=(hfine.good 1 (by omega)).id
  rw [h1] at i1
  omega
 obtain ⟨m60,ml0,ml0',mo0,_⟩:=hfine.prt (show 0 < (allP d).length by omega)
 obtain ⟨p1,p2⟩:=v4_ok (hfine.good 0 (by omega)) (by omega) (by omega)
 obtain ⟨q1,q2⟩:=v4_ok (hfine.good 1 (by omega)) (by omega) (by omega)
 have i4:=four_in4 (hfine.good 0 (by omega)) (by omega) (by omega) hz0
 have j4:=four_in4 (hfine.good 1 (by omega)) (by omega) (by omega) hz1
 have hp4:=(v4_in hz0).2
 have hq4:=(v4_in hz1).2
 have hb0:=macOf_mem (hfine.good 0 (by omega)) (by omega) (by omega)
 have hrs:allP d=[(allP d)[0],(allP d)[1]]:=by
  refine List.ext_getElem (by simpa using hlen) fun i h1 h2=>?_
  match i,(show i < 2 by simpa using h2) with
  | 0,_=>rfl
  | 1,_=>rfl
 have hrP:RlOk (ruleOf (gOf d) 1 2 (allP d)[0]):=hrok _ (List.mem_map.2 ⟨_,List.getElem_mem (by omega),rfl⟩)
 clear hrok
 generalize (allP d)[0]=P at *
 generalize (allP d)[1]=Q at *
 rw [hrs,List.map_cons,List.map_cons,List.map_nil] at hru
 clear hrs hmade hfine
 have e1:hasA (ruleOf (gOf d) 1 2 P).v4 P.v4=true:=hasA_mem.2 (by unfold ruleOf;rw [hp4];simp)
 have e2:hasA (ruleOf (gOf d) 1 2 P).v4 Q.v4=false:=by
  cases h:hasA (ruleOf (gOf d) 1 2 P).v4 Q.v4
  ·rfl
  ·have:=hasA_mem.1 h
   unfold ruleOf at this
   rw [hp4] at this
   exact absurd (List.mem_singleton.1 this) hne
 have g1:=chq_req (r:=ruleOf (gOf d) 1 2 P) mo0 hb0.1 p1 q1 p2 q2 j4
 have g2:=chq_req (r:=ruleOf (gOf d) 1 2 P) mo0 hb0.1 q1 p1 q2 p2 i4
 rw [if_pos e1] at g1
 rw [if_neg (by rw [e2];decide)] at g2
 have hx1:FrX (reqF (macOf P) (reqA (macOf P) P.v4 Q.v4)):=⟨reqF_ok mo0 hb0.2.2 (ip4_v6 p1) (ip4_v6 q1),fun x hx=>by simp [reqF,bcM] at hx;omega,hb0.2.2⟩
 have hx2:FrX (reqF (macOf P) (reqA (macOf P) Q.v4 P.v4)):=⟨reqF_ok mo0 hb0.2.2 (ip4_v6 q1) (ip4_v6 p1),fun x hx=>by simp [reqF,bcM] at hx;omega,hb0.2.2⟩
 have c1:=fchE_any _ hrP.g _ hx1
 have c2:=fchE_any _ hrP.g _ hx2
 have c3:=grE_any _ hx1
 rw [g1] at c1
 rw [g2] at c2
 rw [show grpE (reqF (macOf P) (reqA (macOf P) P.v4 Q.v4)).dst=true from grp_bc] at c3
 have r1:=request_any (macOf P) P.v4 Q.v4 mo0
 have r2:=request_any (macOf P) Q.v4 P.v4 mo0
 have n1:=encReq mo0 p1 q1 p2 q2
 have n2:=encReq mo0 q1 p1 q2 p2
 have tP:=macs0_tk (p:=P) rfl m60 ml0
 unfold reqF at c1 c2 c3
 generalize arpB (reqA (macOf P) P.v4 Q.v4)=B at *
 generalize arpB (reqA (macOf P) Q.v4 P.v4)=C at *
 generalize macOf P=mp at *
 obtain ⟨x0,x1,x2,x3,x4,x5,rfl⟩:=six_of mo0
 have c1:AFn Tryz.prog 26 0 [.agg (ruleC (ruleOf (gOf d) 1 2 P)),.agg (preC lan4),.agg (preC lan6),.agg (bytesC bcM++bytesC [x0,x1,x2,x3,x4,x5]++[.base (.int .i64 0),.base (.int .i64 2054),.isl (bytesC B) B.length])] mt (.base (.int .i64 0)) mt:=c1
 have c2:AFn Tryz.prog 26 0 [.agg (ruleC (ruleOf (gOf d) 1 2 P)),.agg (preC lan4),.agg (preC lan6),.agg (bytesC bcM++bytesC [x0,x1,x2,x3,x4,x5]++[.base (.int .i64 0),.base (.int .i64 2054),.isl (bytesC C) C.length])] mt (.base (.int .i64 7)) mt:=c2
 have c3:AFn Tryz.prog 34 0 [.agg (bytesC bcM++bytesC [x0,x1,x2,x3,x4,x5]++[.base (.int .i64 0),.base (.int .i64 2054),.isl (bytesC B) B.length])] mt (.base (.bool true)) mt:=c3
 unfold ruleOf at hru c1 c2
 rw [hp4,hq4] at hru
 rw [hp4] at c1 c2
 clear hz0 hz1 hne hlen p1 p2 q1 q2 m60 hp4 hq4 hb0 e1 e2 g1 g2 hx1 hx2 hrP i4 j4 mo0
 refine Wq<|qW 0 1 rfl<|qA rfl<|Nl<|Wq<|qW 5 9 rfl<|Od rfl rfl (CN (fr:=[]) rfl rfl (newN_any) fok16 (.cons rfl (.pure rfl) .nil) rfl (by decide))<|Od rfl rfl (C1 (fr:=[]) rfl rfl (hdb) fok46 (.own rfl rfl .nil) rfl rfl rfl (Cn _ _) (by decide) rfl)<|qB rfl ty105<|qS rfl ty105 (Sl rfl) rfl<|Nl<|Wq<|qW 13 20 rfl<|qG rfl ty105 rfl (Tl rfl)<|qY rfl (hru) fok67 rfl<|qM rfl<|qX rfl<|qX rfl<|qA rfl<|qA rfl<|Nl<|Wq<|Wq<|Wd 24 45 (by decide) rfl mixed rfl<|qM rfl<|qN rfl<|qM rfl<|gM rfl rfl<|gH rfl rfl ty30<|gN rfl rfl<|qP rfl rfl rfl<|qM rfl<|gM rfl rfl<|qU rfl rfl rfl (Ii rfl rfl rfl rfl rfl ty30 ty39 (by simp;done))<|qU rfl rfl rfl (Fi rfl rfl ty39 rfl (by decide))<|qU rfl rfl rfl (Li rfl rfl rfl ty37 rfl)<|gH rfl rfl ty37<|gM rfl rfl<|qU rfl rfl rfl (Ii rfl rfl rfl rfl rfl ty30 ty39 (by simp;done))<|qU rfl rfl rfl (Fi rfl rfl ty39 rfl (by decide))<|qU rfl rfl rfl (Li rfl rfl rfl ty37 rfl)<|gH rfl rfl ty37<|qU rfl rfl rfl (LO.add rfl rfl rfl)<|gN rfl rfl<|qP rfl rfl rfl<|Nl ⟨by kernel_rfl,(Wo rfl rfl<|Wu<|Wq<|Wd 54 79 (by decide) rfl mixed rfl<|qM rfl<|qJ rfl rfl ty30 ty39 (by simp;done)<|qI rfl ty39 rfl<|Od rfl rfl (Li rfl rfl rfl ty36 rfl)<|qJ rfl rfl ty36 ty23 (by omega)<|Od rfl rfl (Lg rfl rfl ty23 rfl tP)<|qM rfl<|qJ rfl rfl ty30 ty39 (by simp;done)<|qI rfl ty39 rfl<|Od rfl rfl (Li rfl rfl rfl ty37 rfl)<|qJ rfl rfl ty37 ty54 (by simp;done)<|Od rfl rfl (Lg rfl rfl ty54 rfl (Tl rfl))<|qM rfl<|qJ rfl rfl ty30 ty39 (by simp;done)<|qI rfl ty39 rfl<|Od rfl rfl (Li rfl rfl rfl ty37 rfl)<|qJ rfl rfl ty37 ty54 (by simp;done)<|Od rfl rfl (Lg rfl rfl ty54 rfl (Tl rfl))<|qY rfl (r1) fok69 rfl<|qY rfl (n1) fok68 rfl<|qM rfl<|qX rfl<|qX rfl<|qA rfl<|qA rfl<|Nl ⟨by kernel_rfl,(Wq<|Wd 83 94 (by decide) rfl mixed rfl<|qY rfl (bcX_any) fok39 rfl<|qM rfl<|qJ rfl rfl ty30 ty39 (by simp;done)<|qI rfl ty39 rfl<|Od rfl rfl (Li rfl rfl rfl ty36 rfl)<|qJ rfl rfl ty36 ty23 (by omega)<|Od rfl rfl (Lg rfl rfl ty23 rfl tP)<|qM rfl<|Od rfl rfl (Bs rfl ty26 (.cons rfl rfl rfl rfl (Sl rfl) (.cons rfl rfl rfl rfl (Sl rfl) (.cons rfl rfl rfl rfl (Sl rfl) (.cons rfl rfl rfl rfl (Sl rfl) .nil)))))<|qB rfl ty26<|qS rfl ty26 (Sl rfl) rfl<|Nl ⟨by kernel_rfl,(Wq<|qW 98 101 rfl<|qG rfl ty26 rfl (Tl rfl)<|qB rfl ty26<|qS rfl ty26 (Sl rfl) rfl<|Nl<|Wq<|Wd 105 130 (by decide) rfl mixed rfl<|qM rfl<|qJ rfl rfl ty30 ty39 (by simp;done)<|qI rfl ty39 rfl<|Od rfl rfl (Li rfl rfl rfl ty36 rfl)<|qJ rfl rfl ty36 ty23 (by omega)<|Od rfl rfl (Lg rfl rfl ty23 rfl tP)<|qM rfl<|qJ rfl rfl ty30 ty39 (by simp;done)<|qI rfl ty39 rfl<|Od rfl rfl (Li rfl rfl rfl ty37 rfl)<|qJ rfl rfl ty37 ty54 (by simp;done)<|Od rfl rfl (Lg rfl rfl ty54 rfl (Tl rfl))<|qM rfl<|qJ rfl rfl ty30 ty39 (by simp;done)<|qI rfl ty39 rfl<|Od rfl rfl (Li rfl rfl rfl ty37 rfl)<|qJ rfl rfl ty37 ty54 (by simp;done)<|Od rfl rfl (Lg rfl rfl ty54 rfl (Tl rfl))<|qY rfl (r2) fok69 rfl<|qY rfl (n2) fok68 rfl<|qM rfl<|qX rfl<|qX rfl<|qF rfl ty26 rfl<|qS rfl ty24 (Sl rfl) rfl<|Nl ⟨by kernel_rfl,(Wq<|Wd 134 157 (by decide) rfl mixed rfl<|qM rfl<|qJ rfl rfl ty30 ty39 (by simp;done)<|Od rfl rfl (Lg rfl rfl ty39 rfl (Tl rfl))<|qY rfl (lan4_any) fok19 rfl<|qY rfl (lan6_any) fok20 rfl<|qG rfl ty26 rfl (Tl rfl)<|qY rfl (c1) fok26 rfl<|qE rfl<|qM rfl<|gM rfl rfl<|qU rfl rfl rfl (Ii rfl rfl rfl rfl rfl ty30 ty39 (by simp;done))<|qU rfl rfl rfl (Lg rfl rfl ty39 rfl (Tl rfl))<|gY rfl rfl (lan4_any) fok19 rfl<|gY rfl rfl (lan6_any) fok20 rfl<|gG rfl rfl ty26 rfl (Tl rfl)<|gY rfl rfl (c2) fok26 rfl<|gE rfl rfl<|qT rfl rfl rfl<|qM rfl<|gG rfl rfl ty26 rfl (Tl rfl)<|gY rfl rfl (c3) fok34 rfl<|qT rfl rfl rfl<|qA rfl<|Nl ⟨by kernel_rfl,(Wz ⟨.inl rfl,_,mt,Rc (Rt0 rfl) (Rv),aM,?_⟩)⟩)⟩)⟩)⟩)⟩
 exact ⟨rfl,rfl⟩
theorem encB_six {p:Pk} (h6:p.s.v6=true) (_hl:p.bs.length≤65535):encB p=enc6 p.s p.d p.p p.t p.bs.length p.bs:=by
 unfold encB enc6 putL
 rw [h6,if_pos rfl]
 have e1:hi8 (p.bs.length:Int)=(p.bs.length:Int) / 256 % 256:=by
  unfold hi8
  rw [show (2:Int) ^ (min (8:Int).toNat IntKind.i64.bits)=256 from by decide,Int.fdiv_eq_ediv_of_nonneg _ (by decide),IntKind.wrap_u8']
 have e2:IntKind.u8.wrap (p.bs.length:Int)=(p.bs.length:Int) % 256:=IntKind.wrap_u8' _
 rw [e1,e2]
 unfold addrL
 rw [h6]
 rfl
theorem enc6_back {p:Pk} (hv:vpk p=true) (h6:p.s.v6=true) (s1:U64 p.s.hi) (s2:U64 p.s.lo) (d1:U64 p.d.hi) (d2:U64 p.d.lo):dcE (encB p)=0∧dcP (encB p)=p:=by
 have hl:p.bs.length≤65535:=by
  have:=(valid_parts hv).2.2.2.2.2
  unfold mostP at this
  rw [h6] at this
  simp only [if_true] at this
  omega
 rw [encB_six h6 hl]
 obtain ⟨b1,b2⟩:=back6 (more:=[]) hv s1 s2 d1 d2 h6
 rw [List.append_nil] at b1 b2
 obtain ⟨ps,pd,pp,pt,pb⟩:=p
 dsimp only at *
 have g0:gB (enc6 ps pd pp pt pb.length pb) 0 / 16=6:=by unfold enc6;rfl
 have hlen:(enc6 ps pd pp pt pb.length pb).length≠0:=by unfold enc6;simp
 generalize enc6 ps pd pp pt pb.length pb=b at *
 have hP:dcP b=⟨ps,pd,pp,pt,pb⟩:=by
  unfold rdP rd6 at b2
  rw [g0,if_neg (by decide)] at b2
  injection b2 with q1 q2 q3 q4 q5
  unfold dcP p6 fbA wh6
  rw [g0,if_neg (by decide),q1,q2,q3,q4,q5]
 refine ⟨?_,hP⟩
 unfold codeR at b1
 rw [if_neg hlen,g0,if_neg (by decide),if_pos rfl] at b1
 have hP6:p6 b=⟨ps,pd,pp,pt,pb⟩:=by
  unfold dcP at hP
  rwa [g0,if_neg (by decide)] at hP
 unfold dcE
 rw [if_neg hlen,g0,if_neg (by decide),if_pos rfl]
 unfold fin c6
 rw [b1,if_pos rfl,hP6,if_pos hv]
theorem vpk_enc {n:Nb} {s d:Ad} (hg:GoodN n) (hs:s.v6=true) (hd:d.v6=true):vpk (encN n s d)=true:=by
 have:=enc_len hg s d
 exact vpk_of hs hd (by decide) (by show (encN n s d).bs.length≤1460;omega)
theorem encB_len {n:Nb} {s d:Ad} (hg:GoodN n) (hs:s.v6=true) (_hd:d.v6=true):(encB (encN n s d)).length≤88:=by
 have h1:=enc_len hg s d
 have h2:=adl_len s
 have h3:=adl_len d
 unfold encB
 rw [show (encN n s d).s.v6=true from hs,if_pos rfl]
 show ([96,0,0,0]++putL ((encN n s d).bs.length:Int)++[58,255]++(addrL s++addrL d)++(encN n s d).bs).length≤88
 simp only [List.length_append,putL,List.length_cons,List.length_nil]
 omega
theorem encB_isB {n:Nb} {s d:Ad} (hg:GoodN n) (hs:s.v6=true):IsB (encB (encN n s d)):=by
 unfold encB
 rw [show (encN n s d).s.v6=true from hs,if_pos rfl]
 refine IsB.append (IsB.append (IsB.append (IsB.append ?_ (putL_isB _)) ?_) ((addrL_isB _).append (addrL_isB _))) (enc_isB hg s d)
 ·intro x hx;simp at hx;omega
 ·intro x hx
  have:x=58∨x=255:=by simpa [encN] using hx
  omega
theorem chq_nb {r:Rl} {dst src:List Int} {n:Nb} {s d:Ad} (hv:validN n=true) (hg:GoodN n) (hs:s.v6=true) (hd:d.v6=true) (s1:U64 s.hi∧U64 s.lo) (d1:U64 d.hi∧U64 d.lo) (ho:oddS n s=false) (hm:src∈r.macs) (hr:resM dst=false) :
 chqV r ⟨dst,src,0,34525,encB (encN n s d)⟩=nbF false (n.k == 135) (n.k == 136) (in6 n.tg) (sndV r ⟨dst,src,0,34525,encB (encN n s d)⟩ (encN n s d) n) (grpE dst) (decide (dst=solM n.tg)):=by
 obtain ⟨b1,b2⟩:=enc6_back (p:=encN n s d) (vpk_enc hg hs hd) hs s1.1 s1.2 d1.1 d1.2
 have hdec:=dec_enc (d:=d) hv hg hs hd
 rw [ho,if_neg (by decide)] at hdec
 have hds:dscF (encB (encN n s d))=true:=decR_dsc b1 (by rw [b2,hdec])
 have hl:=encB_len hg hs hd
 unfold chqV
 dsimp only
 rw [show decide ((1500:Int) < ((encB (encN n s d)).length:Int))=false from decide_eq_false (by omega),decide_eq_true hm,hr,hds,b2,show ((34525:Int) == 2054)=false from by decide,show ((34525:Int) == 2048)=false from by decide]
 unfold chqB nbdV
 rw [hdec]
 rfl
theorem six_of_port {n:Int} {p:Prt} (hg:PGood n p) (h0:1≤n) (h1:n≤14):ad1 p.v6=[]∨(ad1 p.v6=[p.v6]∧p.v6.v6=true∧(U64 p.v6.hi∧U64 p.v6.lo)∧grpA p.v6=false∧in6 p.v6=true∧p.v6∈adsP p):=by
 have key:p.v6=sixA n→(ad1 p.v6=[p.v6]∧p.v6.v6=true∧(U64 p.v6.hi∧U64 p.v6.lo)∧grpA p.v6=false∧in6 p.v6=true∧p.v6∈adsP p):=fun e=>by
  have hz:zeroA p.v6=false:=by rw [e];rfl
  refine ⟨by unfold ad1;rw [if_neg (by rw [hz];decide)],by rw [e];rfl,?_,?_,?_,?_⟩
  ·rw [e];unfold sixA U64;dsimp only;omega
  ·rw [e];unfold grpA sixA;dsimp only;decide
  ·rw [e];exact decide_eq_true rfl
  ·unfold adsP;rw [hz];simp
 rcases hg.a with ⟨_,e⟩|⟨_,e⟩|⟨_,e⟩
 ·exact .inl (by rw [e];rfl)
 ·exact .inr (key e)
 ·exact .inr (key e)
theorem mac_res {n:Int} {p:Prt} (hg:PGood n p) (h0:1≤n) (h1:n≤14):∀ m,m∈p.macs→resM m=false:=fun m hm=>by
 rcases hg.mac h0 h1 m hm with e|e<;>rw [e]<;>unfold resM<;>simp
theorem tk3_0 {a b c:List AV} {n:Nat} (h:a.length=n):Tk (a++b++c) (0 * n) n a:=by
 refine ⟨h,fun j x hj=>?_⟩
 have hl:=(List.getElem?_eq_some_iff.1 hj).1
 rw [Nat.zero_mul,Nat.zero_add,List.append_assoc,List.getElem?_append_left hl]
 exact hj
theorem tk3_1 {a b c:List AV} {n:Nat} (h:a.length=n) (h2:b.length=n):Tk (a++b++c) (1 * n) n b:=by
 refine ⟨h2,fun j x hj=>?_⟩
 have hl:=(List.getElem?_eq_some_iff.1 hj).1
 rw [Nat.one_mul,List.append_assoc,List.getElem?_append_right (by omega),List.getElem?_append_left (by omega),h,Nat.add_sub_cancel_left]
 exact hj
theorem tk3_2 {a b c:List AV} {n:Nat} (h:a.length=n) (h2:b.length=n) (h3:c.length=n):Tk (a++b++c) (2 * n) n c:=by
 refine ⟨h3,fun j x hj=>?_⟩
 rw [List.getElem?_append_right (by rw [List.length_append];omega),List.length_append,h,h2,show 2 * n + j - (n + n)=j from by omega]
 exact hj
theorem macs0 {m:List Int} {l:List (List Int)} (h:∀ x,x∈m::l→x.length=6):Tk (macsC (m::l)) (0 * 6) 6 (bytesC m):=macs_tk h (k:=0) (by simp)
theorem mod_nat {i:Int} {n:Nat} (h:0 < n):∃ k:Nat,i % (n:Int)=(k:Int)∧k < n:=⟨(i % (n:Int)).toNat,by have:=Int.emod_nonneg i (show (n:Int)≠0 by omega);omega,by have:=Int.emod_lt_of_pos i (show (0:Int) < n by omega);have:=Int.emod_nonneg i (show (n:Int)≠0 by omega);omega⟩
end Go.Proofs.YtlcndmciognneaaGreatDoor
