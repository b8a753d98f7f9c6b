/-
  The AS numbers of a set and of all that it leads to: the walk. Objects of some AS numbers: the others are deleted. Sorting objects. The sort of a list of objects, by parts that are short enough. Objects that stand side by side twice are left out once. The objects of some AS numbers, in order, each once. What a member may send.
-/
import Derived.Test.YtndbhhgmpjjjhaaGreatDoorMk
import Derived.Test.YtndbhhgmpjjjhaaGreatDoorMab
import Derived.Test.YtndbhhgmpjjjhaaGreatDoorTu
import Derived.Test.YtndbhhgmpjjjhaaGreatDoorVw
namespace Go.Proofs.YtndbhhgmpjjjhaaGreatDoor
open Go.RowKit
def nmB (j:Nat):List UInt8:=(asN j).data.toList
theorem nmB_ks (l:List Nat):l.map stV=(l.map nmB).map Go.Proofs.encStr:=by
 rw [List.map_map]
 exact List.map_congr_left fun j _=>rfl
def ExpOk (v:AV):Prop:=∃ (l:List Int) (cs:List AV) (n:Nat),l.length≤900∧v=.tup [.isl (intsC l) l.length,.isl cs n,.base (.int .i64 0)]
set_option maxHeartbeats 8000000 in
theorem expand_any (ss:List SetR) (os:List ObjR) (nm:ByteArray) (hss:SetsOk ss) (hos:ObjsOk os) (hnm:nm.size≤maxLen):∃ v H',AFn Tryz.prog 16 0 [.agg (regC ss os),.base (.string nm)] mt v H'∧(((∃ j,j < ss.length∧nm=asN j)∧ExpOk v)∨((¬ ∃ j,j < ss.length∧nm=asN j)∧v=.tup [.nils,.nils,.base (.int .i64 11)]))∧H'=mt:=by
 refine AFn.ex Tryz.func16 rfl rfl (Nat.le_of_ble_eq_true rfl) ?_
 have hvalid:=ivalid_any ss os hss hos
 have hsl:=hss.len
 have hms:=mk_sK
 have hmi:=mi_I
 have hkn:kdOf Tryz.prog 9 (.string nm):=kd_str (lay_str ty9) hnm
 unfold regC at hvalid ⊢
 refine Wq<|qW 0 4 rfl<|qC rfl<|qA rfl<|qA rfl<|qA rfl<|Nl<|Wq<|Wq<|qW 8 11 rfl<|qG rfl ty28 rfl (Tl rfl)<|qY rfl (hvalid) fok38 rfl<|qO rfl<|Nl<|Wo rfl rfl<|Wu<|Wq<|qW 22 24 rfl<|Od rfl rfl (LO.makeMapA (kdOf Tryz.prog 9) rfl)<|qA rfl<|Nl<|Wq<|Wq<|qW 28 32 rfl<|qF rfl ty28 rfl<|qL rfl ty25 rfl<|qH rfl ty25<|qM rfl<|Nl<|Wb<|W.rename [(0,22)] 1 (T':=up (up (up (up (up mt 1 (some (.base (.string nm)))) 7 (some (.mref 0))) 25 (some (.isl (setsC ss) ss.length))) 26 (some (.base (.int .i64 (ss.length:Int))))) 27 (some (.base (.int .i64 (0:Int))))) (H':=up mt 0 (some (maC (kdOf Tryz.prog 9) (ksS 0) (setA (ss.take 0))))) (by decide) ?_ ?_ ?_
 ·exact aU (lR rfl) (aU (lR rfl) (aU (lR rfl) (aU (lI rfl) (aU (lR rfl) aM))))
 ·exact aU (kI rfl) aM
 refine W.loop_ind (α:=Nat) (fun x=>ss.length - x) 1 (fun x=>up (up (up (up (up mt 1 (some (.base (.string nm)))) 7 (some (.mref 0))) 25 (some (.isl (setsC ss) ss.length))) 26 (some (.base (.int .i64 (ss.length:Int))))) 27 (some (.base (.int .i64 (x:Int))))) (fun x=>up mt 0 (some (maC (kdOf Tryz.prog 9) (ksS x) (setA (ss.take x))))) (fun x=>x≤ss.length) 0 (show 0≤ss.length from Nat.zero_le _) ?_
 rintro k hIA ihA
 try (dsimp only at hIA)
 try dsimp only
 by_cases hc:k < ss.length
 ·have g1:decide ((k:Int) < (ss.length:Int))=true:=decide_eq_true (by omega)
  have hkk:(k:Int) + 1=((k + 1:Nat):Int):=by omega
  have hst:=sets_tk hc
  have hsk:=hss.k k ss[k] (List.getElem?_eq_getElem hc)
  have htk:=take_s1 hc
  obtain ⟨s,hs⟩:∃ s,ss[k]=s:=⟨_,rfl⟩
  rw [hs] at hst hsk htk
  obtain ⟨k2,as_,sl⟩:=s
  obtain rfl:k=k2:=hsk.symm
  have hkd:=kd_as k
  have hnk:stV k ∉ ksS k:=fun h=>by have:=(ksS_mem (by omega) (by omega)).1 h;omega
  have e1:setA (ss.take k)++[.agg (setC ⟨k,as_,sl⟩)]=setA (ss.take (k + 1)):=by rw [htk];simp [setA]
  have e2:ksS k++[stV k]=ksS (k + 1):=by unfold ksS;rw [List.range_succ,List.map_append];rfl
  refine Wq<|qW 36 37 rfl<|qK rfl<|Nl<|Wq<|Wt rfl ‹_›<|Wu<|Wq<|Wb<|Wq<|qW 41 45 rfl<|qJ rfl rfl ty25 ty65 (by omega)<|Od rfl rfl (Lg rfl rfl ty65 rfl hst)<|qB rfl ty65<|qS rfl ty65 (Sl rfl) rfl<|Nl<|qW 49 54 rfl<|qM rfl<|qF rfl ty65 rfl<|qL rfl ty9 rfl<|qG rfl ty65 rfl (Tl rfl)<|On rfl rfl (LO.mapUpdateA (av:=.agg (setC ⟨k,as_,sl⟩)) (key:=stV k) rfl rfl rfl (KV.base _) rfl rfl rfl ty111 hms hkd hnk)<|Nl ?_
  rw [e1,e2]
  refine qW 58 60 rfl<|qZ rfl (iW _ (by omega))<|qM rfl<|Nl ?_
  rw [hkk]
  refine WL.rename [(0,0)] 1 (by decide) ?_ ?_ (ihA (k + 1) (show ss.length - (k + 1) < ss.length - k from by omega) (show (k + 1)≤ss.length from by omega))
  ·exact aU (lR rfl) (aU (lR rfl) (aU (lR rfl) (aU (lI rfl) (aU (lR rfl) aM))))
  ·exact aU (⟨rfl,_,rfl,.inl (maC_ren (setA_pure _) _)⟩) aM
 have g1:decide ((k:Int) < (ss.length:Int))=false:=decide_eq_false (by omega)
 obtain rfl:k=ss.length:=by omega
 rw [List.take_length]
 clear ihA
 by_cases hin:∃ j,j < ss.length∧nm=asN j
 rotate_left
 ·have hni:Value.string nm ∉ ksS ss.length:=fun h=>by
   obtain ⟨j,hj,e⟩:=List.mem_map.1 h
   rw [List.mem_range] at hj
   injection e with e
   exact hin ⟨j,hj,e.symm⟩
  refine Wq<|qW 36 37 rfl<|qK rfl<|Nl<|Wq<|Wo rfl ‹_›<|Wx<|Wq<|Wq<|qW 64 73 rfl<|qM rfl<|qM rfl<|Od rfl rfl (LO.lookupA_no rfl rfl rfl (KV.base _) rfl ty111 hms hkn hni ty65 zset_rep)<|qM rfl<|qX rfl<|qX rfl<|qB rfl ty65<|qS rfl ty65 (Sl rfl) rfl<|qA rfl<|Nl<|Wq<|qW 77 79 rfl<|qM rfl<|qO rfl<|Nl<|Wt rfl rfl<|Wq<|qW 83 86 rfl<|qA rfl<|qA rfl<|qA rfl<|Nl<|Wz ⟨.inl rfl,_,mt,(Rc (Rt0 rfl) (Rc (Rt0 rfl) (Rc (Rt0 rfl) Rv))),aM,?_⟩
  exact ⟨.inr ⟨hin,rfl⟩,rfl⟩
 obtain ⟨j0,hj0,hnj⟩:=hin
 have hi0:(ksS ss.length)[j0]?=some (.string nm):=by rw [hnj];exact ksS_at hj0
 have ha0:(setA ss)[j0]?=some (.agg (setC ss[j0])):=by unfold setA;rw [List.getElem?_map,List.getElem?_eq_getElem hj0];rfl
 refine Wq<|qW 36 37 rfl<|qK rfl<|Nl<|Wq<|Wo rfl ‹_›<|Wx<|Wq<|Wq<|qW 64 73 rfl<|qM rfl<|qM rfl<|Od rfl rfl (LO.lookupA rfl rfl rfl (KV.base _) rfl ty111 hms hkn hi0 ha0)<|qM rfl<|qX rfl<|qX rfl<|qB rfl ty65<|qS rfl ty65 (Sl rfl) rfl<|qA rfl<|Nl<|Wq<|qW 77 79 rfl<|qM rfl<|qO rfl<|Nl<|Wo rfl rfl<|Wu<|Wq<|qW 90 96 rfl<|Od rfl rfl (LO.makeMap (kdOf Tryz.prog 9) rfl)<|Od rfl rfl (LO.makeMapL (kdOf Tryz.prog 3) rfl)<|Od rfl rfl (LO.makeMapL (kdOf Tryz.prog 9) rfl)<|qA rfl<|qA rfl<|qA rfl<|Nl ?_
 rw [← setV_nil,hnj]
 refine Wq<|Wq<|qW 100 103 rfl<|qM rfl<|Od rfl rfl (LO.buildSlice rfl ty55 ty9 (by decide) (by decide) (.cons rfl rfl rfl rfl (Sl rfl) .nil))<|qA rfl<|Nl<|Wb<|W.rename [(0,0),(1,90),(2,91),(3,92),(4,101)] 5 (T':=up (up (up (up (up mt 7 (some (.mref 0))) 12 (some (.mref 1))) 13 (some (.mref 2))) 14 (some (.mref 3))) 15 (some (.osl 4 (([]:List Nat)).length [j0].length 1))) (H':=up (up (up (up (up mt 0 (some (maC (kdOf Tryz.prog 9) (ksS ss.length) (setA ss)))) 1 (some ([.mp (kdOf Tryz.prog 9) (setV ((([]:List Nat)).map stV))]))) 2 (some (mlC (kdOf Tryz.prog 3) ((([]:List Int)).map Go.encZ) (trues (([]:List Int)))))) 3 (some (mlC (kdOf Tryz.prog 9) ((([]:List Nat)).map stV) (trues (([]:List Nat)))))) 4 (some (strsC ((([]:List Nat))++[j0])))) (by decide) ?_ ?_ ?_
 ·exact aU (lI rfl) (aU (lI rfl) (aU (lI rfl) (aU (lI rfl) (aU (lI rfl) aM))))
 ·exact aU (kR rfl) (aU (kI rfl) (aU (kI rfl) (aU (kI rfl) (aU (⟨rfl,_,rfl,.inl (maC_ren (setA_pure _) _)⟩) aM))))
 refine W.loop_ind (α:=List Nat × List Nat × List Nat × List Int × List Nat) (fun x=>4 * (ss.length - x.2.2.1.length) + x.2.1.length) 5 (fun x=>up (up (up (up (up mt 7 (some (.mref 0))) 12 (some (.mref 1))) 13 (some (.mref 2))) 14 (some (.mref 3))) 15 (some (.osl 4 x.1.length x.2.1.length 1))) (fun x=>up (up (up (up (up mt 0 (some (maC (kdOf Tryz.prog 9) (ksS ss.length) (setA ss)))) 1 (some ([.mp (kdOf Tryz.prog 9) (setV (x.2.2.1.map stV))]))) 2 (some (mlC (kdOf Tryz.prog 3) (x.2.2.2.1.map Go.encZ) (trues x.2.2.2.1)))) 3 (some (mlC (kdOf Tryz.prog 9) (x.2.2.2.2.map stV) (trues x.2.2.2.2)))) 4 (some (strsC (x.1++x.2.1)))) (fun x=>(∀ z∈x.2.1,z < 5)∧(x.2.2.1.Nodup∧∀ z∈x.2.2.1,z < ss.length)∧((∀ z∈x.2.2.2.1,1≤z∧z≤6)∧x.2.2.2.1.length≤3 * x.2.2.1.length)∧(∀ z∈x.2.2.2.2,z < 5)∧x.2.2.2.2.length + x.2.1.length + 3 * (ss.length - x.2.2.1.length)≤13) ((([]:List Nat)),[j0],(([]:List Nat)),(([]:List Int)),(([]:List Nat))) (show (∀ z∈[j0],z < 5)∧((([]:List Nat)).Nodup∧∀ z∈(([]:List Nat)),z < ss.length)∧((∀ z∈(([]:List Int)),1≤z∧z≤6)∧(([]:List Int)).length≤3 * (([]:List Nat)).length)∧(∀ z∈(([]:List Nat)),z < 5)∧(([]:List Nat)).length + [j0].length + 3 * (ss.length - (([]:List Nat)).length)≤13 from ⟨fun z hz=>(by rw [List.mem_singleton] at hz;subst hz;omega),⟨List.nodup_nil,fun z hz=>(by cases hz)⟩,⟨fun z hz=>(by cases hz),Nat.zero_le _⟩,fun z hz=>(by cases hz),(by simp;omega)⟩) ?_
 rintro ⟨pre,q,met,al,mis⟩ hIB ihB
 try (dsimp only at hIB)
 try dsimp only
 obtain ⟨hq5,⟨hmn,hml⟩,⟨hA,hAl⟩,hmi5,hbnd⟩:=hIB
 have hmet:=nodup_le ss.length met hmn hml
 by_cases hq0:q=[]
 ·subst hq0
  clear ihB
  have hwA:∀ z∈al,(Go.Lit.int .i64 z).wf=true:=fun z hz=>wf_small (hA z hz).1 (hA z hz).2
  have hoI:∀ v∈(al.mergeSort Go.leI).map Go.encZ,v.oneCell'=true:=fun v hv=>by
   obtain ⟨z,_,rfl⟩:=List.mem_map.1 hv;rfl
  have hoS:∀ v∈((mis.map nmB).mergeSort Go.leB).map Go.Proofs.encStr,v.oneCell'=true:=fun v hv=>by
   obtain ⟨z,_,rfl⟩:=List.mem_map.1 hv;rfl
  have hcI:=sortedI_calls al hwA (by omega) (kd:=kdOf Tryz.prog 3) (vs:=trues al)
  have hcS:=sortedS_calls (mis.map nmB) (fun z hz=>by obtain ⟨j,_,rfl⟩:=List.mem_map.1 hz;exact asN_size j) (by simp;simp at hbnd;omega) (kd:=kdOf Tryz.prog 9) (vs:=trues mis)
  rw [← nmB_ks] at hcS
  refine Wq<|Wq<|qW 107 110 rfl<|qM rfl<|Od rfl rfl (LO.len rfl rfl ty55)<|qGt rfl<|Nl<|Wo rfl rfl<|Wx<|Wq<|qW 212 221 rfl<|qM rfl<|Od rfl rfl (LO.keysCall (it:=78) (tm:=114) rfl rfl fok40 rfl keysI_calls)<|Od rfl rfl (LO.sortedCall rfl rfl fok39 rfl rfl hoI hcI)<|qM rfl<|Od rfl rfl (LO.keysCall (it:=81) (tm:=113) rfl rfl fok42 rfl keysS_calls)<|Od rfl rfl (LO.sortedCall rfl rfl fok41 rfl rfl hoS hcS)<|qA rfl<|qA rfl<|qA rfl<|Nl<|Wz ⟨.inl rfl,_,mt,(Rc (Rt0 rfl) (Rc (Rt0 rfl) (Rc (Rt0 rfl) Rv))),aM,?_⟩
  refine ⟨?_,rfl⟩
  refine .inl ⟨⟨j0,hj0,rfl⟩,?_⟩
  unfold ExpOk
  refine ⟨al.mergeSort Go.leI,(((mis.map nmB).mergeSort Go.leB).map Go.Proofs.encStr).map AV.base,(((mis.map nmB).mergeSort Go.leB).map Go.Proofs.encStr).length,by rw [List.length_mergeSort];omega,?_⟩
  have e1:List.map AV.base (List.map Go.encZ (al.mergeSort Go.leI))=intsC (al.mergeSort Go.leI):=by unfold intsC;rw [List.map_map];rfl
  have e2:(List.map Go.encZ (al.mergeSort Go.leI)).length=(al.mergeSort Go.leI).length:=List.length_map _
  rw [e1,e2]
  rfl
 obtain ⟨a,q2,hqe⟩:∃ a q2,q=a::q2:=by
  cases q with
  | nil=>exact absurd rfl hq0
  | cons a q2=>exact ⟨a,q2,rfl⟩
 have ha5:a < 5:=hq5 a (by rw [hqe];simp)
 have hq5':∀ z∈q2,z < 5:=fun z hz=>hq5 z (by rw [hqe];simp [hz])
 have hlq:q.length=q2.length + 1:=by rw [hqe];rfl
 have hkd:=kd_as a
 have hhd:=strs_hd pre q2 a
 have hmid:=strs_mid pre (a::q2) (n:=q2.length + 1) rfl
 have g2:decide (((q2.length + 1:Nat):Int) > 0)=true:=decide_eq_true (by omega)
 have epop:strsC (pre++a::q2)=strsC ((pre++[a])++q2):=by rw [List.append_assoc];rfl
 have elen:pre.length + 1 * 1=(pre++[a]).length:=by simp
 rw [hlq,hqe]
 by_cases han:a < ss.length
 rotate_left
 ·have hni:stV a ∉ ksS ss.length:=fun h=>han ((ksS_mem (by omega) ha5).1 h)
  obtain ⟨mis',⟨hm5,hmlen⟩,hput⟩:=put_caseS mis hmi5 a ha5
  refine Wq<|Wq<|qW 107 110 rfl<|qM rfl<|Od rfl rfl (LO.len rfl rfl ty55)<|qGt rfl<|Nl<|Wt rfl ‹_›<|Wu<|Wq<|Wb<|Wq<|qW 114 125 rfl<|qM rfl<|qM rfl<|Od rfl rfl (Ia rfl rfl rfl rfl ty55 ty9 (by simp;done))<|Od rfl rfl (Ld rfl rfl rfl hhd ty9 rfl)<|Od rfl rfl (LO.lookupA_no (key:=stV a) rfl rfl rfl (KV.base _) rfl ty111 hms hkd hni ty65 zset_rep)<|qM rfl<|qX rfl<|qX rfl<|qB rfl ty65<|qS rfl ty65 (Sl rfl) rfl<|qA rfl<|Nl<|Wb<|Wq<|qW 129 132 rfl<|qM rfl<|qO rfl<|qA rfl<|Nl<|Wt rfl rfl<|qW 136 141 rfl<|qM rfl<|qM rfl<|Od rfl rfl (Ia rfl rfl rfl rfl ty55 ty9 (by simp;done))<|Od rfl rfl (Ld rfl rfl rfl hhd ty9 rfl)<|On rfl rfl (LO.mapPutL (key:=stV a) rfl rfl rfl (KV.base _) rfl rfl ty113 hms hkd hput)<|Nl<|qW 205 208 rfl<|qM rfl<|Od rfl rfl (LO.slice (m:=1) (n:=q2.length + 1) rfl rfl (Ba rfl rfl) Bnd.no (by omega) (Nat.le_refl _) ty55 ty9)<|qA rfl<|Nl ?_
  rw [epop,elen,Nat.add_sub_cancel]
  refine WL.rename [(0,0),(1,1),(2,2),(3,3),(4,4)] 5 (by decide) ?_ ?_ (ihB ((pre++[a]),q2,met,al,(mis')) (show 4 * (ss.length - met.length) + q2.length < 4 * (ss.length - met.length) + q.length from (by omega)) (show (∀ z∈q2,z < 5)∧(met.Nodup∧∀ z∈met,z < ss.length)∧((∀ z∈al,1≤z∧z≤6)∧al.length≤3 * met.length)∧(∀ z∈(mis'),z < 5)∧(mis').length + q2.length + 3 * (ss.length - met.length)≤13 from ⟨hq5',⟨hmn,hml⟩,⟨hA,hAl⟩,hm5,by omega⟩))
  ·exact aU (lI rfl) (aU (lI rfl) (aU (lI rfl) (aU (lI rfl) (aU (lI rfl) aM))))
  ·exact aU (kP rfl (strsC_pure _)) (aU (kI rfl) (aU (kI rfl) (aU (kI rfl) (aU (⟨rfl,_,rfl,.inl (maC_ren (setA_pure _) _)⟩) aM))))
 have hia:=ksS_at han
 have hsk:=hss.k a ss[a] (List.getElem?_eq_getElem han)
 have hok:=hss.ok ss[a] (List.getElem_mem han)
 have hva:(setA ss)[a]?=some (.agg (setC ss[a])):=by unfold setA;rw [List.getElem?_map,List.getElem?_eq_getElem han];rfl
 obtain ⟨s,hs⟩:∃ s,ss[a]=s:=⟨_,rfl⟩
 rw [hs] at hsk hok hva
 obtain ⟨a2,as_,sl⟩:=s
 obtain rfl:a=a2:=hsk.symm
 obtain ⟨hk1,hk2,hk3,hk4⟩:=hok
 dsimp only at hk1 hk2 hk3 hk4
 by_cases ham:a∈met
 ·have hlk:(setV (met.map stV) (stV a)).getD (.bool false)=.bool true:=setV_in (List.mem_map_of_mem ham)
  refine Wq<|Wq<|qW 107 110 rfl<|qM rfl<|Od rfl rfl (LO.len rfl rfl ty55)<|qGt rfl<|Nl<|Wt rfl ‹_›<|Wu<|Wq<|Wb<|Wq<|qW 114 125 rfl<|qM rfl<|qM rfl<|Od rfl rfl (Ia rfl rfl rfl rfl ty55 ty9 (by simp;done))<|Od rfl rfl (Ld rfl rfl rfl hhd ty9 rfl)<|Od rfl rfl (LO.lookupA (key:=stV a) rfl rfl rfl (KV.base _) rfl ty111 hms hkd hia hva)<|qM rfl<|qX rfl<|qX rfl<|qB rfl ty65<|qS rfl ty65 (Sl rfl) rfl<|qA rfl<|Nl<|Wb<|Wq<|qW 129 132 rfl<|qM rfl<|qO rfl<|qA rfl<|Nl<|Wo rfl rfl<|Wq<|qW 145 151 rfl<|qM rfl<|qF rfl ty65 rfl<|qL rfl ty9 rfl<|Od rfl rfl (LO.lookup rfl rfl rfl (KV.base _) rfl ty113 hms hkd (zero_of (by kernel_rfl)) hlk)<|qO rfl<|qA rfl<|Nl<|Wo rfl rfl<|Wu<|qW 205 208 rfl<|qM rfl<|Od rfl rfl (LO.slice (m:=1) (n:=q2.length + 1) rfl rfl (Ba rfl rfl) Bnd.no (by omega) (Nat.le_refl _) ty55 ty9)<|qA rfl<|Nl ?_
  rw [epop,elen,Nat.add_sub_cancel]
  refine WL.rename [(0,0),(1,1),(2,2),(3,3),(4,4)] 5 (by decide) ?_ ?_ (ihB ((pre++[a]),q2,met,al,mis) (show 4 * (ss.length - met.length) + q2.length < 4 * (ss.length - met.length) + q.length from (by omega)) (show (∀ z∈q2,z < 5)∧(met.Nodup∧∀ z∈met,z < ss.length)∧((∀ z∈al,1≤z∧z≤6)∧al.length≤3 * met.length)∧(∀ z∈mis,z < 5)∧mis.length + q2.length + 3 * (ss.length - met.length)≤13 from ⟨hq5',⟨hmn,hml⟩,⟨hA,hAl⟩,hmi5,by omega⟩))
  ·exact aU (lI rfl) (aU (lI rfl) (aU (lI rfl) (aU (lI rfl) (aU (lI rfl) aM))))
  ·exact aU (kP rfl (strsC_pure _)) (aU (kI rfl) (aU (kI rfl) (aU (kI rfl) (aU (⟨rfl,_,rfl,.inl (maC_ren (setA_pure _) _)⟩) aM))))
 have hlk:(setV (met.map stV) (stV a)).getD (.bool false)=.bool false:=setV_out fun h=>by
  obtain ⟨z,hz,e⟩:=List.mem_map.1 h
  exact ham (stV_inj (by have:=hml z hz;omega) ha5 e ▸ hz)
 have hmet2:met.length + 1≤ss.length:=by
  have:=nodup_le ss.length (a::met) (List.nodup_cons.2 ⟨ham,hmn⟩) fun z hz=>by
   rcases List.mem_cons.1 hz with rfl|h
   ·exact han
   ·exact hml z h
  simpa using this
 have hmn2:(met++[a]).Nodup:=List.nodup_append.2 ⟨hmn,List.pairwise_singleton _ _,fun u hu v hv e=>by rw [List.mem_singleton] at hv;subst hv;exact ham (e ▸ hu)⟩
 have hml2:∀ z∈met++[a],z < ss.length:=memR hml han
 have hmap:(met++[a]).map stV=met.map stV++[stV a]:=by rw [List.map_append];rfl
 refine Wq<|Wq<|qW 107 110 rfl<|qM rfl<|Od rfl rfl (LO.len rfl rfl ty55)<|qGt rfl<|Nl<|Wt rfl ‹_›<|Wu<|Wq<|Wb<|Wq<|qW 114 125 rfl<|qM rfl<|qM rfl<|Od rfl rfl (Ia rfl rfl rfl rfl ty55 ty9 (by simp;done))<|Od rfl rfl (Ld rfl rfl rfl hhd ty9 rfl)<|Od rfl rfl (LO.lookupA (key:=stV a) rfl rfl rfl (KV.base _) rfl ty111 hms hkd hia hva)<|qM rfl<|qX rfl<|qX rfl<|qB rfl ty65<|qS rfl ty65 (Sl rfl) rfl<|qA rfl<|Nl<|Wb<|Wq<|qW 129 132 rfl<|qM rfl<|qO rfl<|qA rfl<|Nl<|Wo rfl rfl<|Wq<|qW 145 151 rfl<|qM rfl<|qF rfl ty65 rfl<|qL rfl ty9 rfl<|Od rfl rfl (LO.lookup rfl rfl rfl (KV.base _) rfl ty113 hms hkd (zero_of (by kernel_rfl)) hlk)<|qO rfl<|qA rfl<|Nl<|Wt rfl rfl<|Wq<|qW 155 159 rfl<|qM rfl<|qF rfl ty65 rfl<|qL rfl ty9 rfl<|On rfl rfl (LO.mapUpdate rfl rfl rfl (KV.base _) rfl rfl ty113 hms hkd (m':=setV ((met++[a]).map stV)) (by rw [hmap];exact setV_at _ _) (by rw [hmap];exact setV_else _ _))<|Nl<|Wq<|Wq<|qW 163 167 rfl<|qF rfl ty65 rfl<|qL rfl ty22 rfl<|qH rfl ty22<|qM rfl<|Nl<|Wb<|W.rename [(0,0),(1,1),(2,2),(3,3),(4,4),(5,122)] 6 (T':=up (up (up (up (up (up (up (up (up mt 7 (some (.mref 0))) 12 (some (.mref 1))) 13 (some (.mref 2))) 14 (some (.mref 3))) 15 (some (.osl 4 pre.length (q2.length + 1) 1))) 16 (some (.own 5 0))) 79 (some (.isl (intsC as_) as_.length))) 80 (some (.base (.int .i64 (as_.length:Int))))) 81 (some (.base (.int .i64 (0:Int))))) (H':=up (up (up (up (up (up mt 0 (some (maC (kdOf Tryz.prog 9) (ksS ss.length) (setA ss)))) 1 (some ([.mp (kdOf Tryz.prog 9) (setV ((met++[a]).map stV))]))) 2 (some (mlC (kdOf Tryz.prog 3) (al.map Go.encZ) (trues al)))) 3 (some (mlC (kdOf Tryz.prog 9) (mis.map stV) (trues mis)))) 4 (some (strsC (pre++a::q2)))) 5 (some ([.base (.string (asN a)),.isl (intsC as_) as_.length,.isl (strsC sl) sl.length]))) (by decide) ?_ ?_ ?_
 ·exact aU (lR rfl) (aU (lR rfl) (aU (lR rfl) (aU (lI rfl) (aU (lI rfl) (aU (lI rfl) (aU (lI rfl) (aU (lI rfl) (aU (lI rfl) aM))))))))
 ·exact aU (kR rfl) (aU (kP rfl (strsC_pure _)) (aU (kI rfl) (aU (kI rfl) (aU (kI rfl) (aU (⟨rfl,_,rfl,.inl (maC_ren (setA_pure _) _)⟩) aM)))))
 refine W.loop_ind (α:=Nat × List Int) (fun x=>as_.length - x.1) 6 (fun x=>up (up (up (up (up (up (up (up (up mt 7 (some (.mref 0))) 12 (some (.mref 1))) 13 (some (.mref 2))) 14 (some (.mref 3))) 15 (some (.osl 4 pre.length (q2.length + 1) 1))) 16 (some (.own 5 0))) 79 (some (.isl (intsC as_) as_.length))) 80 (some (.base (.int .i64 (as_.length:Int))))) 81 (some (.base (.int .i64 (x.1:Int))))) (fun x=>up (up (up (up (up (up mt 0 (some (maC (kdOf Tryz.prog 9) (ksS ss.length) (setA ss)))) 1 (some ([.mp (kdOf Tryz.prog 9) (setV ((met++[a]).map stV))]))) 2 (some (mlC (kdOf Tryz.prog 3) (x.2.map Go.encZ) (trues x.2)))) 3 (some (mlC (kdOf Tryz.prog 9) (mis.map stV) (trues mis)))) 4 (some (strsC (pre++a::q2)))) 5 (some ([.base (.string (asN a)),.isl (intsC as_) as_.length,.isl (strsC sl) sl.length]))) (fun x=>x.1≤as_.length∧(∀ z∈x.2,1≤z∧z≤6)∧x.2.length≤3 * met.length + x.1) (0,al) (show 0≤as_.length∧(∀ z∈al,1≤z∧z≤6)∧al.length≤3 * met.length + 0 from ⟨Nat.zero_le _,hA,by omega⟩) ?_
 rintro ⟨j,a3⟩ hIC ihC
 try (dsimp only at hIC)
 try dsimp only
 obtain ⟨hj,hA3,hAl3⟩:=hIC
 by_cases hcj:j < as_.length
 ·have g3:decide ((j:Int) < (as_.length:Int))=true:=decide_eq_true (by omega)
  have hjj:(j:Int) + 1=((j + 1:Nat):Int):=by omega
  have hat:=ints_at hcj
  have hin:=hk2 as_[j] (List.getElem_mem hcj)
  obtain ⟨y,hy⟩:∃ y,as_[j]=y:=⟨_,rfl⟩
  rw [hy] at hat hin
  obtain ⟨a4,⟨h41,h42⟩,hput⟩:=put_case a3 y
  have hA4:∀ z∈a4,1≤z∧z≤6:=fun z hz=>by
   rcases h41 z hz with h|h
   ·exact hA3 z h
   ·rw [h];exact hin
  have hki:kdOf Tryz.prog 3 (Go.encZ y):=kd_int (lay_int ty3) (wf_small hin.1 hin.2)
  refine Wq<|qW 171 172 rfl<|qK rfl<|Nl<|Wq<|Wt rfl ‹_›<|Wu<|Wq<|Wb<|Wq<|qW 176 179 rfl<|qJ rfl rfl ty22 ty3 (by omega)<|Od rfl rfl (Li rfl rfl hat ty3 rfl)<|qA rfl<|Nl<|qW 183 186 rfl<|qM rfl<|qM rfl<|On rfl rfl (LO.mapPutL (key:=Go.encZ y) rfl rfl rfl (KV.base _) rfl rfl ty114 hmi hki hput)<|Nl<|qW 190 192 rfl<|qZ rfl (iW _ (by omega))<|qM rfl<|Nl ?_
  rw [hjj]
  refine WL.rename [(0,0),(1,1),(2,2),(3,3),(4,4),(5,5)] 6 (by decide) ?_ ?_ (ihC ((j + 1),a4) (show as_.length - (j + 1) < as_.length - j from by omega) (show (j + 1)≤as_.length∧(∀ z∈a4,1≤z∧z≤6)∧a4.length≤3 * met.length + (j + 1) from ⟨by omega,hA4,by omega⟩))
  ·exact aU (lR rfl) (aU (lR rfl) (aU (lR rfl) (aU (lI rfl) (aU (lI rfl) (aU (lI rfl) (aU (lI rfl) (aU (lI rfl) (aU (lI rfl) aM))))))))
  ·exact aU (kR rfl) (aU (kP rfl (strsC_pure _)) (aU (kI rfl) (aU (kI rfl) (aU (kI rfl) (aU (⟨rfl,_,rfl,.inl (maC_ren (setA_pure _) _)⟩) aM)))))
 have g3:decide ((j:Int) < (as_.length:Int))=false:=decide_eq_false (by omega)
 clear ihC
 have hsl2:=strsC_len sl
 have eap:strsC (a::q2)++strsC sl=strsC ([]++a::(q2++sl)):=by simp [strsC]
 have epop2:strsC ([]++a::(q2++sl))=strsC ([a]++(q2++sl)):=rfl
 have elen2:q2.length + 1 + sl.length - 1=(q2++sl).length:=by rw [List.length_append];omega
 have hsl5:∀ z∈q2++sl,z < 5:=fun z hz=>by
  rcases List.mem_append.1 hz with h|h
  ·exact hq5' z h
  ·exact hk4 z h
 refine Wq<|qW 171 172 rfl<|qK rfl<|Nl<|Wq<|Wo rfl ‹_›<|Wx<|qW 196 201 rfl<|qM rfl<|qF rfl ty65 rfl<|qL rfl ty55 rfl<|Od rfl rfl (Lap rfl rfl (Ssi rfl rfl (by rw [strsC_len,Nat.mul_one])) rfl hmid ty55 ty55 ty9 (by decide) (by omega) (by omega) (by decide))<|qA rfl<|Nl ?_
 rw [eap]
 refine qW 205 208 rfl<|qM rfl<|Od rfl rfl (LO.slice (m:=1) (n:=q2.length + 1 + sl.length) rfl rfl (Ba rfl rfl) Bnd.no (by omega) (Nat.le_refl _) ty55 ty9)<|qA rfl<|Nl ?_
 rw [epop2,elen2]
 refine WL.rename [(0,0),(1,1),(2,2),(3,3),(4,199)] 5 (by decide) ?_ ?_ (ihB ([a],(q2++sl),(met++[a]),a3,mis) (show 4 * (ss.length - (met++[a]).length) + (q2++sl).length < 4 * (ss.length - met.length) + q.length from (by rw [List.length_append,List.length_append,List.length_singleton];omega)) (show (∀ z∈(q2++sl),z < 5)∧((met++[a]).Nodup∧∀ z∈(met++[a]),z < ss.length)∧((∀ z∈a3,1≤z∧z≤6)∧a3.length≤3 * (met++[a]).length)∧(∀ z∈mis,z < 5)∧mis.length + (q2++sl).length + 3 * (ss.length - (met++[a]).length)≤13 from ⟨hsl5,⟨hmn2,hml2⟩,⟨hA3,by rw [List.length_append,List.length_singleton];omega⟩,hmi5,by rw [List.length_append,List.length_append,List.length_singleton];omega⟩))
 ·exact aU (lI rfl) (aU (lI rfl) (aU (lI rfl) (aU (lI rfl) (aU (lI rfl) aM))))
 ·exact aU (kP rfl (strsC_pure _)) (aU (kI rfl) (aU (kI rfl) (aU (kI rfl) (aU (⟨rfl,_,rfl,.inl (maC_ren (setA_pure _) _)⟩) aM))))
def kpO (as_:List Int) (o:ObjR):Bool:=decide (o.asn∈as_)
def ownV (as_:List Int):AV:=.clo 86 [.imm [.isl (intsC as_) as_.length] 0]
theorem own1_any (as_:List Int) (o:ObjR) (hl:as_.length≤1000):AFn Tryz.prog 86 0 [.agg (objC o),.imm [.isl (intsC as_) as_.length] 0] mt (.base (.bool (!(kpO as_ o)))) mt:=by
 refine AFn.eq Tryz.func86 rfl rfl (Nat.le_of_ble_eq_true rfl) ?_
 have h1:=contains_ints as_ o.asn hl
 refine Wq<|qW 0 2 rfl<|qC rfl<|qA rfl<|Nl<|Wq<|qW 6 12 rfl<|Od rfl rfl (Li rfl rfl rfl ty22 rfl)<|qF rfl ty38 rfl<|qL rfl ty3 rfl<|qY rfl (h1) fok43 rfl<|qO rfl<|qA rfl<|Nl<|Wz ⟨.inl rfl,_,mt,(Rc (Rt0 rfl) Rv),aM,?_⟩
 exact ⟨rfl,rfl⟩
def ixO (p:ObjR→Bool):List ObjR→Nat→Int
 | [],_=>-1
 | o::l,k=>if p o=true then (k:Int) else ixO p l (k + 1)
theorem ixO_cases (p:ObjR→Bool):∀ (l:List ObjR) (k:Nat),(ixO p l k=-1∧∀ o∈l,p o=false)∨∃ (i:Nat) (h:i < l.length),ixO p l k=((k + i:Nat):Int)∧p l[i]=true∧∀ o∈l.take i,p o=false:=by
 intro l
 induction l with
 | nil=>intro k;exact .inl ⟨rfl,fun o h=>(by cases h)⟩
 | cons x l ih =>
  intro k
  unfold ixO
  cases hx:p x with
  | true=>exact .inr ⟨0,by simp,by simp,hx,fun o h=>(by cases h)⟩
  | false =>
   rw [if_neg (by simp)]
   rcases ih (k + 1) with ⟨h1,h2⟩|⟨i,h,h1,h2,h3⟩
   ·refine .inl ⟨h1,fun o ho=>?_⟩
    rcases List.mem_cons.1 ho with rfl|h4
    ·exact hx
    ·exact h2 o h4
   ·refine .inr ⟨i + 1,by simpa using h,by rw [h1];congr 1;omega,h2,fun o ho=>?_⟩
    rw [List.take_succ_cons] at ho
    rcases List.mem_cons.1 ho with rfl|h4
    ·exact hx
    ·exact h3 o h4
set_option maxHeartbeats 1000000 in
theorem indexO_any (l:List ObjR) (as_:List Int) (hl:l.length≤1000) (ha:as_.length≤1000):AFn Tryz.prog 143 1 [.osl 0 0 l.length 6,ownV as_] (up mt 0 (some (objsC l))) (.base (.int .i64 (ixO (fun o=>!(kpO as_ o)) l 0))) (up mt 0 (some (objsC l))):=by
 refine AFn.eq Tryz.func143 rfl rfl (Nat.le_of_ble_eq_true rfl) ?_
 obtain ⟨R,hR⟩:∃ R,ixO (fun o=>!(kpO as_ o)) l 0=R:=⟨_,rfl⟩
 rw [hR]
 unfold ownV
 refine Wq<|qW 1 2 rfl<|qA rfl<|Nl<|Wq<|Wq<|qW 6 9 rfl<|qM rfl<|Od rfl rfl (LO.len rfl rfl ty26)<|qM rfl<|Nl<|Wb<|W.rename [(0,0)] 1 (T':=up (up (up (up mt 0 (some (.osl 0 0 l.length 6))) 1 (some (.clo 86 [.imm [.isl (intsC as_) as_.length] 0]))) 7 (some (.base (.int .i64 (l.length:Int))))) 8 (some (.base (.int .i64 (0:Int))))) (H':=up mt 0 (some (objsC l))) (by decide) ?_ ?_ ?_
 ·exact aU (lR rfl) (aU (lR rfl) (aU (lR rfl) (aU (lI rfl) aM)))
 ·exact aU (kP rfl (objsC_pure _)) aM
 refine W.loop_ind (α:=Nat) (fun x=>l.length - x) 1 (fun x=>up (up (up (up mt 0 (some (.osl 0 0 l.length 6))) 1 (some (.clo 86 [.imm [.isl (intsC as_) as_.length] 0]))) 7 (some (.base (.int .i64 (l.length:Int))))) 8 (some (.base (.int .i64 (x:Int))))) (fun x=>up mt 0 (some (objsC l))) (fun x=>x≤l.length∧ixO (fun o=>!(kpO as_ o)) (l.drop x) x=R) 0 (show 0≤l.length∧ixO (fun o=>!(kpO as_ o)) (l.drop 0) 0=R from ⟨Nat.zero_le _,hR⟩) ?_
 rintro k hIA ihA
 try (dsimp only at hIA)
 try dsimp only
 obtain ⟨hk,hI⟩:=hIA
 by_cases hc:k < l.length
 ·have g1:decide ((k:Int) < (l.length:Int))=true:=decide_eq_true (by omega)
  have hkk:(k:Int) + 1=((k + 1:Nat):Int):=by omega
  have htk:=objs_tk0 hc
  rw [List.drop_eq_getElem_cons hc] at hI
  obtain ⟨o,ho⟩:∃ y,l[k]=y:=⟨_,rfl⟩
  rw [ho] at htk hI
  unfold ixO at hI
  have h1:=own1_any as_ o ha
  refine Wq<|qW 13 14 rfl<|qK rfl<|Nl<|Wq<|Wt rfl ‹_›<|Wu<|Wq<|Wb<|Wq<|qW 18 20 rfl<|qM rfl<|qA rfl<|Nl ?_
  cases hq:kpO as_ o with
  | false =>
   rw [hq] at hI h1
   rw [if_pos (show (!false)=true from rfl)] at hI
   refine Wq<|qW 24 30 rfl<|qM rfl<|qM rfl<|qM rfl<|Od rfl rfl (Ia rfl rfl rfl rfl ty26 ty38 (by omega))<|qG rfl ty38 rfl htk<|Od rfl rfl (LO.callC (fr:=[]) (args:=[.agg (objC o)]) rfl rfl rfl h1 fok86 (.cons rfl (.pure rfl) .nil) rfl)<|Nl<|Wt rfl rfl<|Wq<|qW 34 36 rfl<|qM rfl<|qA rfl<|Nl<|Wz ⟨.inl rfl,_,(up mt 0 (some (objsC l))),(Rc (Rt0 rfl) Rv),(aU rfl aM),?_⟩
   exact ⟨by rw [hI];rfl,rfl⟩
  | true =>
   rw [hq] at hI h1
   rw [if_neg (show ¬ (!true)=true by decide)] at hI
   refine Wq<|qW 24 30 rfl<|qM rfl<|qM rfl<|qM rfl<|Od rfl rfl (Ia rfl rfl rfl rfl ty26 ty38 (by omega))<|qG rfl ty38 rfl htk<|Od rfl rfl (LO.callC (fr:=[]) (args:=[.agg (objC o)]) rfl rfl rfl h1 fok86 (.cons rfl (.pure rfl) .nil) rfl)<|Nl<|Wo rfl rfl<|Wu<|qW 40 42 rfl<|qZ rfl (iW _ (by omega))<|qM rfl<|Nl ?_
   rw [hkk]
   refine WL.rename [(0,0)] 1 (by decide) ?_ ?_ (ihA (k + 1) (show l.length - (k + 1) < l.length - k from by omega) (show (k + 1)≤l.length∧ixO (fun o=>!(kpO as_ o)) (l.drop (k + 1)) (k + 1)=R from ⟨by omega,hI⟩))
   ·exact aU (lR rfl) (aU (lR rfl) (aU (lR rfl) (aU (lI rfl) aM)))
   ·exact aU (kP rfl (objsC_pure _)) aM
 ·have g1:decide ((k:Int) < (l.length:Int))=false:=decide_eq_false (by omega)
  rw [List.drop_eq_nil_of_le (by omega)] at hI
  refine Wq<|qW 13 14 rfl<|qK rfl<|Nl<|Wq<|Wo rfl ‹_›<|Wx<|Wq<|qW 46 47 rfl<|qA rfl<|Nl<|Wz ⟨.inl rfl,_,(up mt 0 (some (objsC l))),(Rc (Rt0 rfl) Rv),(aU rfl aM),?_⟩
  exact ⟨by rw [← hI];rfl,rfl⟩
theorem take_setR {α:Type} {l:List α} {i:Nat} {v:α} (h:i < l.length):(l.set i v).take (i + 1)=l.take i++[v]:=by
 rw [List.take_add_one,List.take_set_of_le (Nat.le_refl _),List.getElem?_set_self h];rfl
theorem drop_setR {α:Type} {l:List α} {i j:Nat} {v:α} (h:i < j):(l.set i v).drop j=l.drop j:=List.drop_set_of_lt h
theorem get_dropR {α:Type} {l m:List α} {j:Nat} (h:m.drop j=l.drop j) (hj:j < l.length) (hl:m.length=l.length):m[j]'(by omega)=l[j]:=by
 have h1:(m.drop j)[0]?=(l.drop j)[0]?:=by rw [h]
 rw [List.getElem?_drop,List.getElem?_drop,Nat.add_zero,List.getElem?_eq_getElem hj,List.getElem?_eq_getElem (by omega)] at h1
 injection h1
theorem drop_stepR {α:Type} {l m:List α} {j:Nat} (h:m.drop j=l.drop j):m.drop (j + 1)=l.drop (j + 1):=by
 rw [← List.drop_drop,← List.drop_drop,h]
theorem filt_all {l:List ObjR} {p:ObjR→Bool} (h:∀ o∈l,(!(p o))=false):l.filter p=l:=List.filter_eq_self.2 fun o ho=>by simpa using h o ho
set_option maxHeartbeats 1000000 in
theorem deleteO_any (l:List ObjR) (as_:List Int) (hl:l.length≤1000) (ha:as_.length≤1000) (h0:0 < l.length):AFn Tryz.prog 84 1 [.osl 0 0 l.length 6,ownV as_] (up mt 0 (some (objsC l))) (.isl (objsC (l.filter (kpO as_))) (l.filter (kpO as_)).length) mt:=by
 refine AFn.eq Tryz.func84 rfl rfl (Nat.le_of_ble_eq_true rfl) ?_
 have hix:=indexO_any l as_ hl ha
 have hne:=objsC_ne h0
 rcases ixO_cases (fun o=>!(kpO as_ o)) l 0 with ⟨e1,h1⟩|⟨i0,hi0,e1,h1,h2⟩
 ·rw [e1] at hix
  rw [filt_all h1]
  refine Wq<|qW 1 2 rfl<|qA rfl<|Nl<|Wq<|qW 6 10 rfl<|qM rfl<|qM rfl<|Od rfl rfl (C1 (fr:=[]) rfl rfl (hix) fok143 (.osl rfl rfl (.cons rfl (.pure rfl) .nil)) rfl (objsC_pure _) (objsC_pure _) hne (by decide) rfl)<|qA rfl<|Nl<|Wq<|Wq<|qW 14 16 rfl<|qM rfl<|qE rfl<|Nl<|Wt rfl rfl<|Wq<|qW 20 22 rfl<|qM rfl<|qA rfl<|Nl<|Wy (t:=4) rfl rfl (objs_all rfl) (objsC_pure _)<|Wz ⟨.inl rfl,_,mt,(Rc (Rt0 rfl) Rv),aM,?_⟩
  exact ⟨rfl,rfl⟩
 ·rw [e1,Nat.zero_add] at hix
  have g0:((i0:Int) == -1)=false:=by simp
  have hii:(i0:Int) + 1=((i0 + 1:Nat):Int):=by omega
  have hst:l.take i0=(l.take (i0 + 1)).filter (kpO as_):=by
   rw [take_s1 hi0,List.filter_append,filt_all h2,List.filter_cons_of_neg (by simpa using h1)]
   simp
  unfold ownV at hix
  unfold ownV
  refine Wq<|qW 1 2 rfl<|qA rfl<|Nl<|Wq<|qW 6 10 rfl<|qM rfl<|qM rfl<|Od rfl rfl (C1 (fr:=[]) rfl rfl (hix) fok143 (.osl rfl rfl (.cons rfl (.pure rfl) .nil)) rfl (objsC_pure _) (objsC_pure _) hne (by decide) rfl)<|qA rfl<|Nl<|Wq<|Wq<|qW 14 16 rfl<|qM rfl<|qE rfl<|Nl<|Wo rfl rfl<|Wu<|Wq<|Wq<|qW 26 29 rfl<|qM rfl<|qZ rfl (iW _ (by omega))<|qA rfl<|Nl ?_
  rw [hii]
  refine Wb<|W.rename [(0,0)] 1 (T':=up (up (up (up mt 0 (some (.osl 0 0 l.length 6))) 1 (some (.clo 86 [.imm [.isl (intsC as_) as_.length] 0]))) 5 (some (.base (.int .i64 (i0:Int))))) 6 (some (.base (.int .i64 ((i0 + 1):Int))))) (H':=up mt 0 (some (objsC l))) (by decide) ?_ ?_ ?_
  ·exact aU (lR rfl) (aU (lR rfl) (aU (lR rfl) (aU (lI rfl) aM)))
  ·exact aU (kP rfl (objsC_pure _)) aM
  refine W.loop_ind (α:=Nat × Nat × List ObjR) (fun x=>l.length - x.2.1) 1 (fun x=>up (up (up (up mt 0 (some (.osl 0 0 l.length 6))) 1 (some (.clo 86 [.imm [.isl (intsC as_) as_.length] 0]))) 5 (some (.base (.int .i64 (x.1:Int))))) 6 (some (.base (.int .i64 (x.2.1:Int))))) (fun x=>up mt 0 (some (objsC x.2.2))) (fun x=>(x.2.1≤l.length∧x.1 < x.2.1∧x.2.2.length=l.length)∧x.2.2.take x.1=(l.take x.2.1).filter (kpO as_)∧x.2.2.drop x.2.1=l.drop x.2.1) (i0,(i0 + 1),l) (show ((i0 + 1)≤l.length∧i0 < (i0 + 1)∧l.length=l.length)∧l.take i0=(l.take (i0 + 1)).filter (kpO as_)∧l.drop (i0 + 1)=l.drop (i0 + 1) from ⟨⟨by omega,by omega,rfl⟩,hst,rfl⟩) ?_
  rintro ⟨i,j,m⟩ hIA ihA
  try (dsimp only at hIA)
  try dsimp only
  obtain ⟨⟨hj,hij,hml⟩,hmi,hmj⟩:=hIA
  by_cases hc:j < l.length
  ·have g1:decide ((j:Int) < (l.length:Int))=true:=decide_eq_true (by omega)
   have hjj:(j:Int) + 1=((j + 1:Nat):Int):=by omega
   have hi1:(i:Int) + 1=((i + 1:Nat):Int):=by omega
   have htk:=objs_tk0 (l:=m) (k:=j) (by omega)
   have hgm:=get_dropR hmj hc hml
   have hdm:=drop_stepR hmj
   obtain ⟨o,ho⟩:∃ y,l[j]=y:=⟨_,rfl⟩
   rw [hgm,ho] at htk
   have hsp:=objs_sp (l:=m) (i:=i) o (by omega)
   have h1:=own1_any as_ o ha
   have htj:=take_s1 hc
   rw [ho] at htj
   refine Wq<|Wq<|qW 33 37 rfl<|qM rfl<|qM rfl<|Od rfl rfl (LO.len rfl rfl ty26)<|qK rfl<|Nl<|Wt rfl ‹_›<|Wu<|Wq<|Wb<|Wq<|qW 41 47 rfl<|qM rfl<|qM rfl<|Od rfl rfl (Ia rfl rfl rfl rfl ty26 ty38 (by omega))<|qG rfl ty38 rfl htk<|qB rfl ty38<|qS rfl ty38 (Sl rfl) rfl<|Nl ?_
   cases hq:kpO as_ o with
   | false =>
    rw [hq] at h1
    have hfi:(l.take (j + 1)).filter (kpO as_)=(l.take j).filter (kpO as_):=by
     rw [htj,List.filter_append,List.filter_cons_of_neg (by simp [hq])];simp
    refine Wq<|qW 51 55 rfl<|qM rfl<|qG rfl ty38 rfl (Tl rfl)<|Od rfl rfl (LO.callC (fr:=[]) (args:=[.agg (objC o)]) rfl rfl rfl h1 fok86 (.cons rfl (.pure rfl) .nil) rfl)<|qO rfl<|Nl<|Wo rfl rfl<|Wu<|qW 75 78 rfl<|qM rfl<|qZ rfl (iW _ (by omega))<|qA rfl<|Nl ?_
    rw [hjj]
    refine WL.rename [(0,0)] 1 (by decide) ?_ ?_ (ihA (i,(j + 1),m) (show l.length - (j + 1) < l.length - j from by omega) (show ((j + 1)≤l.length∧i < (j + 1)∧m.length=l.length)∧m.take i=(l.take (j + 1)).filter (kpO as_)∧m.drop (j + 1)=l.drop (j + 1) from ⟨⟨by omega,by omega,hml⟩,by rw [hfi];exact hmi,hdm⟩))
    ·exact aU (lR rfl) (aU (lR rfl) (aU (lR rfl) (aU (lI rfl) aM)))
    ·exact aU (kP rfl (objsC_pure _)) aM
   | true =>
    rw [hq] at h1
    have hfi:(l.take (j + 1)).filter (kpO as_)=(l.take j).filter (kpO as_)++[o]:=by
     rw [htj,List.filter_append,List.filter_cons_of_pos (by simp [hq])];simp
    refine Wq<|qW 51 55 rfl<|qM rfl<|qG rfl ty38 rfl (Tl rfl)<|Od rfl rfl (LO.callC (fr:=[]) (args:=[.agg (objC o)]) rfl rfl rfl h1 fok86 (.cons rfl (.pure rfl) .nil) rfl)<|qO rfl<|Nl<|Wt rfl rfl<|Wq<|qW 59 64 rfl<|qM rfl<|qM rfl<|qG rfl ty38 rfl (Tl rfl)<|Od rfl rfl (Ia (i:=i) rfl rfl rfl rfl ty26 ty38 (by omega))<|qS rfl ty38 hsp rfl<|Nl<|qW 68 71 rfl<|qM rfl<|qZ rfl (iW _ (by omega))<|qA rfl<|Nl ?_
    rw [hi1]
    refine qW 75 78 rfl<|qM rfl<|qZ rfl (iW _ (by omega))<|qA rfl<|Nl ?_
    rw [hjj]
    refine WL.rename [(0,0)] 1 (by decide) ?_ ?_ (ihA ((i + 1),(j + 1),(m.set i o)) (show l.length - (j + 1) < l.length - j from by omega) (show ((j + 1)≤l.length∧(i + 1) < (j + 1)∧(m.set i o).length=l.length)∧(m.set i o).take (i + 1)=(l.take (j + 1)).filter (kpO as_)∧(m.set i o).drop (j + 1)=l.drop (j + 1) from ⟨⟨by omega,by omega,by simpa using hml⟩,by rw [take_setR (by omega),hfi,hmi],by rw [drop_setR (by omega)];exact hdm⟩))
    ·exact aU (lR rfl) (aU (lR rfl) (aU (lR rfl) (aU (lI rfl) aM)))
    ·exact aU (kP rfl (objsC_pure _)) aM
  ·have g1:decide ((j:Int) < (l.length:Int))=false:=decide_eq_false (by omega)
   obtain rfl:j=l.length:=by omega
   rw [List.take_length] at hmi
   have hlen:(m.take i).length=i:=by rw [List.length_take];omega
   have hfl:(l.filter (kpO as_)).length=i:=by rw [← hmi];exact hlen
   have hcl:=objs_clr (l:=m) (i:=i) (by omega)
   rw [hml,hmi] at hcl
   clear ihA
   refine Wq<|Wq<|qW 33 37 rfl<|qM rfl<|qM rfl<|Od rfl rfl (LO.len rfl rfl ty26)<|qK rfl<|Nl<|Wo rfl ‹_›<|Wx<|Wq<|qW 82 86 rfl<|qM rfl<|qM rfl<|Od rfl rfl (LO.slice (m:=i) (n:=l.length) rfl rfl (Ba rfl rfl) Bnd.no (by omega) (Nat.le_refl _) ty26 ty38)<|On rfl rfl (LO.clear rfl rfl rfl hcl ty26 ty38 (by decide) (by omega))<|Nl<|Wq<|qW 90 94 rfl<|qM rfl<|qM rfl<|Od rfl rfl (LO.slice (m:=0) (n:=i) rfl rfl Bnd.no (Ba rfl rfl) (by omega) (by omega) ty26 ty38)<|qA rfl<|Nl<|Wy (t:=4) rfl rfl (objs_pre (n:=i - 0) (by omega)) (objsC_pure _)<|Wz ⟨.inl rfl,_,mt,(Rc (Rt0 rfl) Rv),aM,?_⟩
   exact ⟨by rw [hfl];rfl,rfl⟩
def cmpO (a b:ObjR):Int:=orI (cmpP a.p b.p) (orI (cmpI a.mx b.mx) (cmpI a.asn b.asn))
theorem compare_any (a b:ObjR):AFn Tryz.prog 141 0 [.agg (objC a),.agg (objC b)] mt (.base (.int .i64 (cmpO a b))) mt:=by
 refine AFn.eq Tryz.func141 rfl rfl (Nat.le_of_ble_eq_true rfl) ?_
 have h1:=pcmp_any a.p b.p
 have h2:=cmpi_any a.mx b.mx
 have h3:=cmpi_any a.asn b.asn
 have h6:=or3_any (cmpP a.p b.p) (cmpI a.mx b.mx) (cmpI a.asn b.asn)
 refine Wq<|qW 0 3 rfl<|qC rfl<|qC rfl<|qA rfl<|Nl<|Wq<|Wd 7 25 (by decide) rfl mixed rfl<|qF rfl ty38 rfl<|qG rfl ty36 rfl (Tl rfl)<|qF rfl ty38 rfl<|qG rfl ty36 rfl (Tl rfl)<|qY rfl (h1) fok47 rfl<|qF rfl ty38 rfl<|qL rfl ty3 rfl<|qF rfl ty38 rfl<|qL rfl ty3 rfl<|qY rfl (h2) fok89 rfl<|qF rfl ty38 rfl<|qL rfl ty3 rfl<|qF rfl ty38 rfl<|qL rfl ty3 rfl<|qY rfl (h3) fok89 rfl<|Od rfl rfl (LO.buildSlice rfl ty22 ty3 (by decide) (by decide) (.cons rfl rfl rfl rfl (Sl rfl) (.cons rfl rfl rfl rfl (Sl rfl) (.cons rfl rfl rfl rfl (Sl rfl) .nil))))<|Od rfl rfl (C0 (fr:=[22]) rfl rfl (h6) fok87 (.cons rfl (.one (.osl (by decide) rfl (Tl rfl) rfl)) .nil) rfl)<|qA rfl<|Nl ⟨by kernel_rfl,(Wz ⟨.inl rfl,_,mt,(Rc (Rt0 rfl) Rv),aM,?_⟩)⟩
 exact ⟨rfl,rfl⟩
theorem ba_get {s:ByteArray} {j:Nat} (h:j < s.size):s[j]?=some s[j]:=getElem?_pos s j h
theorem len64_any (n:Nat) (hn:n < 256):∃ v H',AFn Tryz.prog 208 0 [.base (.int .u64 (n:Int))] mt v H'∧∃ k:Int,v=.base (.int .i64 k)∧H'=mt:=by
 refine AFn.ex Tryz.func208 rfl rfl (Nat.le_of_ble_eq_true rfl) ?_
 have g1:decide ((n:Int) ≥ 4294967296)=false:=decide_eq_false (by omega)
 have g2:decide ((n:Int) ≥ 65536)=false:=decide_eq_false (by omega)
 have g3:decide ((n:Int) ≥ 256)=false:=decide_eq_false (by omega)
 refine Wq<|qW 0 1 rfl<|qA rfl<|Nl<|Wq<|Wq<|qW 5 7 rfl<|qM rfl<|qGe rfl<|Nl<|Wo rfl ‹_›<|Wu<|Wq<|Wq<|qW 23 25 rfl<|qM rfl<|qGe rfl<|Nl<|Wo rfl ‹_›<|Wu<|Wq<|Wq<|qW 43 45 rfl<|qM rfl<|qGe rfl<|Nl<|Wo rfl ‹_›<|Wu<|Wq<|qW 63 70 rfl<|qM rfl<|qM rfl<|Od rfl rfl (Ci rfl rfl ty32 ty5 (IntWalk.u8_in _ (by omega)))<|Od rfl rfl (LO.indexStr rfl rfl rfl rfl ty9 (ba_get (Nat.lt_of_lt_of_le hn (Nat.le_of_ble_eq_true (by kernel_rfl)))))<|Od rfl rfl (LO.conv rfl rfl ty5 ty3)<|Od rfl rfl (LO.add rfl rfl rfl)<|qA rfl<|Nl<|Wz ⟨.inl rfl,_,mt,(Rc (Rt0 rfl) Rv),aM,?_⟩
 exact ⟨_,rfl,rfl⟩
theorem len_any (n:Nat) (hn:n < 256):∃ v H',AFn Tryz.prog 137 0 [.base (.int .u64 (n:Int))] mt v H'∧∃ k:Int,v=.base (.int .i64 k)∧H'=mt:=by
 refine AFn.ex Tryz.func137 rfl rfl (Nat.le_of_ble_eq_true rfl) ?_
 obtain ⟨_,_,h1,k,rfl,rfl⟩:=len64_any n hn
 refine Wq<|qW 0 1 rfl<|qA rfl<|Nl<|Wq<|Wo rfl rfl<|Wu<|Wq<|qW 13 16 rfl<|qM rfl<|qY rfl (h1) fok208 rfl<|qA rfl<|Nl<|Wz ⟨.inl rfl,_,mt,(Rc (Rt0 rfl) Rv),aM,?_⟩
 exact ⟨k,rfl,rfl⟩
def cmpFn:AV:=.base (.func (.func 141) #[] #[])
structure SameO (m l:List ObjR):Prop where
 len:m.length=l.length
 mem:∀ o,o∈m↔o∈l
theorem SameO.refl (l:List ObjR):SameO l l:=⟨rfl,fun _=>Iff.rfl⟩
theorem SameO.swap {m l:List ObjR} (h:SameO m l) {j:Nat} (hj:j + 1 < m.length):SameO ((m.set (j + 1) (m[j]'(by omega))).set j m[j + 1]) l :=
 ⟨by simpa using h.len,fun o=>(List.set_set_perm (by omega) (by omega)).mem_iff.trans (h.mem o)⟩
set_option maxHeartbeats 2000000 in
theorem insertO_any (l:List ObjR) (h0:0 < l.length) (hl:l.length≤12):∃ v H',AFn Tryz.prog 278 1 [.osl 0 0 l.length 6,.base (.int .i64 0),.base (.int .i64 (l.length:Int)),cmpFn] (up mt 0 (some (objsC l))) v H'∧∃ m:List ObjR,SameO m l∧v=.tup []∧H'=up mt 0 (some (objsC m)):=by
 refine AFn.ex Tryz.func278 rfl rfl (Nat.le_of_ble_eq_true rfl) ?_
 unfold cmpFn
 refine Wq<|qW 1 4 rfl<|qM rfl<|qZ rfl (iW _ (by omega))<|qA rfl<|Nl ?_
 rw [show (0:Int) + 1=((1:Nat):Int) from rfl]
 refine Wb<|W.rename [(0,0)] 1 (T':=up (up (up (up (up mt 0 (some (.osl 0 0 l.length 6))) 1 (some (.base (.int .i64 0)))) 2 (some (.base (.int .i64 (l.length:Int))))) 3 (some (.base (.func (.func 141) #[] #[])))) 8 (some (.base (.int .i64 (1:Int))))) (H':=up mt 0 (some (objsC l))) (by decide) ?_ ?_ ?_
 ·exact aU (lR rfl) (aU (lR rfl) (aU (lR rfl) (aU (lR rfl) (aU (lI rfl) aM))))
 ·exact aU (kP rfl (objsC_pure _)) aM
 refine W.loop_ind (α:=Nat × List ObjR) (fun x=>l.length - x.1) 1 (fun x=>up (up (up (up (up mt 0 (some (.osl 0 0 l.length 6))) 1 (some (.base (.int .i64 0)))) 2 (some (.base (.int .i64 (l.length:Int))))) 3 (some (.base (.func (.func 141) #[] #[])))) 8 (some (.base (.int .i64 (x.1:Int))))) (fun x=>up mt 0 (some (objsC x.2))) (fun x=>(1≤x.1∧x.1≤l.length)∧SameO x.2 l) (1,l) (show (1≤1∧1≤l.length)∧SameO l l from ⟨⟨by omega,by omega⟩,SameO.refl l⟩) ?_
 rintro ⟨i,m⟩ hIA ihA
 try (dsimp only at hIA)
 try dsimp only
 obtain ⟨⟨hi1,hil⟩,hm⟩:=hIA
 by_cases hc:i < l.length
 ·have g1:decide ((i:Int) < (l.length:Int))=true:=decide_eq_true (by omega)
  have hii:(i:Int) + 1=((i + 1:Nat):Int):=by omega
  refine Wq<|Wq<|qW 8 11 rfl<|qM rfl<|qM rfl<|qK rfl<|Nl<|Wt rfl ‹_›<|Wu<|Wq<|Wb<|Wq<|qW 15 17 rfl<|qM rfl<|qA rfl<|Nl<|Wb<|W.rename [(0,0)] 1 (T':=up (up (up (up (up (up mt 0 (some (.osl 0 0 l.length 6))) 1 (some (.base (.int .i64 0)))) 2 (some (.base (.int .i64 (l.length:Int))))) 3 (some (.base (.func (.func 141) #[] #[])))) 8 (some (.base (.int .i64 (i:Int))))) 9 (some (.base (.int .i64 (i:Int))))) (H':=up mt 0 (some (objsC m))) (by decide) ?_ ?_ ?_
  ·exact aU (lR rfl) (aU (lR rfl) (aU (lR rfl) (aU (lR rfl) (aU (lR rfl) (aU (lI rfl) aM)))))
  ·exact aU (kP rfl (objsC_pure _)) aM
  refine W.loop_ind (α:=Nat × List ObjR) (fun x=>x.1) 1 (fun x=>up (up (up (up (up (up mt 0 (some (.osl 0 0 l.length 6))) 1 (some (.base (.int .i64 0)))) 2 (some (.base (.int .i64 (l.length:Int))))) 3 (some (.base (.func (.func 141) #[] #[])))) 8 (some (.base (.int .i64 (i:Int))))) 9 (some (.base (.int .i64 (x.1:Int))))) (fun x=>up mt 0 (some (objsC x.2))) (fun x=>x.1≤i∧SameO x.2 l) (i,m) (show i≤i∧SameO m l from ⟨by omega,hm⟩) ?_
  rintro ⟨j,m⟩ hIB ihB
  try (dsimp only at hIB)
  try dsimp only
  obtain ⟨hji,hm⟩:=hIB
  by_cases hj0:0 < j
  ·obtain ⟨k,hk⟩:∃ k,j=k + 1:=⟨j - 1,by omega⟩
   have g2:decide ((j:Int) > 0)=true:=decide_eq_true (by omega)
   have hjj:(j:Int) - 1=(k:Int):=by omega
   have hml:=hm.len
   have hk1:j < m.length:=by omega
   have hk0:k < m.length:=by omega
   have hsw:SameO ((m.set j m[k]).set k m[j]) l:=by subst hk;exact hm.swap hk1
   have ht1:=objs_tk0 hk1
   have ht0:=objs_tk0 hk0
   have hs1:=objs_sp (l:=m) (i:=j) m[k] hk1
   have hs2:=objs_sp (l:=m.set j m[k]) (i:=k) m[j] (by simpa using hk0)
   have hcm:=compare_any m[j] m[k]
   generalize m[j]=a at hsw ht1 hs1 hs2 hcm
   generalize m[k]=b at hsw ht0 hs1 hs2 hcm
   rcases Int.lt_or_le (cmpO a b) 0 with hlt|hlt
   case' inl =>
    have g3:decide (cmpO a b < 0)=true:=decide_eq_true hlt
    refine Wq<|Wq<|Wd 21 38 (by decide) rfl mixed rfl<|qM rfl<|qM rfl<|qGt rfl<|qM rfl<|gM rfl ‹_›<|gM rfl ‹_›<|gM rfl ‹_›<|qU rfl ‹_› rfl (Ia rfl rfl rfl rfl ty26 ty38 (by omega))<|gG rfl ‹_› ty38 rfl ht1<|gM rfl ‹_›<|gM rfl ‹_›<|qU rfl ‹_› rfl (LO.sub_in rfl rfl rfl (iW _ (by omega)))<|qU rfl ‹_› rfl (Ia rfl rfl rfl hjj ty26 ty38 (by omega))<|gG rfl ‹_› ty38 rfl ht0<|qU rfl ‹_› rfl (LO.callF (fr:=[]) rfl rfl hcm fok141 (.cons rfl (.pure rfl) (.cons rfl (.pure rfl) .nil)) rfl)<|gK rfl ‹_›<|qT rfl ‹_› rfl<|Nl ⟨by kernel_rfl,(Wt rfl ‹_›<|Wu<|Wq<|Wb<|Wd 42 60 (by decide) rfl mixed rfl<|qM rfl<|qM rfl<|qM rfl<|qM rfl<|Od rfl rfl (LO.sub_in rfl rfl rfl (iW _ (by omega)))<|qM rfl<|qM rfl<|Od rfl rfl (LO.sub_in rfl rfl rfl (iW _ (by omega)))<|Od rfl rfl (Ia rfl rfl rfl hjj ty26 ty38 (by omega))<|qG rfl ty38 rfl ht0<|qM rfl<|qM rfl<|Od rfl rfl (Ia rfl rfl rfl rfl ty26 ty38 (by omega))<|qG rfl ty38 rfl ht1<|Od rfl rfl (Ia rfl rfl rfl rfl ty26 ty38 (by omega))<|qS rfl ty38 hs1 rfl<|Od rfl rfl (Ia rfl rfl rfl hjj ty26 ty38 (by omega))<|qS rfl ty38 hs2 rfl<|Nl ⟨by kernel_rfl,(qW 64 67 rfl<|qM rfl<|Od rfl rfl (LO.sub_in rfl rfl rfl (iW _ (by omega)))<|qA rfl<|Nl ?_)⟩)⟩
    rw [hjj]
    refine WL.rename [(0,0)] 1 (by decide) ?_ ?_ (ihB (k,((m.set j b).set k a)) (show k < j from by omega) (show k≤i∧SameO ((m.set j b).set k a) l from ⟨by omega,hsw⟩))
    ·exact aU (lR rfl) (aU (lR rfl) (aU (lR rfl) (aU (lR rfl) (aU (lR rfl) (aU (lI rfl) aM)))))
    ·exact aU (kP rfl (objsC_pure _)) aM
   case' inr =>
    have g3:decide (cmpO a b < 0)=false:=decide_eq_false (by omega)
    refine Wq<|Wq<|Wd 21 38 (by decide) rfl mixed rfl<|qM rfl<|qM rfl<|qGt rfl<|qM rfl<|gM rfl ‹_›<|gM rfl ‹_›<|gM rfl ‹_›<|qU rfl ‹_› rfl (Ia rfl rfl rfl rfl ty26 ty38 (by omega))<|gG rfl ‹_› ty38 rfl ht1<|gM rfl ‹_›<|gM rfl ‹_›<|qU rfl ‹_› rfl (LO.sub_in rfl rfl rfl (iW _ (by omega)))<|qU rfl ‹_› rfl (Ia rfl rfl rfl hjj ty26 ty38 (by omega))<|gG rfl ‹_› ty38 rfl ht0<|qU rfl ‹_› rfl (LO.callF (fr:=[]) rfl rfl hcm fok141 (.cons rfl (.pure rfl) (.cons rfl (.pure rfl) .nil)) rfl)<|gK rfl ‹_›<|qT rfl ‹_› rfl<|Nl ⟨by kernel_rfl,(Wo rfl ‹_›<|Wx ?_)⟩
    clear ihB
    refine qW 71 74 rfl<|qM rfl<|qZ rfl (iW _ (by omega))<|qA rfl<|Nl ?_
    rw [hii]
    refine WL.rename [(0,0)] 1 (by decide) ?_ ?_ (ihA ((i + 1),m) (show l.length - (i + 1) < l.length - i from by omega) (show (1≤(i + 1)∧(i + 1)≤l.length)∧SameO m l from ⟨⟨by omega,by omega⟩,hm⟩))
    ·exact aU (lR rfl) (aU (lR rfl) (aU (lR rfl) (aU (lR rfl) (aU (lI rfl) aM))))
    ·exact aU (kP rfl (objsC_pure _)) aM
  ·have g2:decide ((j:Int) > 0)=false:=decide_eq_false (by omega)
   clear ihB
   refine Wq<|Wq<|Wd 21 38 (by decide) rfl mixed rfl<|qM rfl<|qM rfl<|qGt rfl<|qM rfl<|qD rfl ‹_› rfl<|qD rfl ‹_› rfl<|qD rfl ‹_› rfl<|qD rfl ‹_› rfl<|qD rfl ‹_› rfl<|qD rfl ‹_› rfl<|qD rfl ‹_› rfl<|qD rfl ‹_› rfl<|qD rfl ‹_› rfl<|qD rfl ‹_› rfl<|qD rfl ‹_› rfl<|qD rfl ‹_› rfl<|qP rfl ‹_› rfl<|Nl ⟨by kernel_rfl,(Wo rfl rfl<|Wx<|qW 71 74 rfl<|qM rfl<|qZ rfl (iW _ (by omega))<|qA rfl<|Nl ?_)⟩
   rw [hii]
   refine WL.rename [(0,0)] 1 (by decide) ?_ ?_ (ihA ((i + 1),m) (show l.length - (i + 1) < l.length - i from by omega) (show (1≤(i + 1)∧(i + 1)≤l.length)∧SameO m l from ⟨⟨by omega,by omega⟩,hm⟩))
   ·exact aU (lR rfl) (aU (lR rfl) (aU (lR rfl) (aU (lR rfl) (aU (lI rfl) aM))))
   ·exact aU (kP rfl (objsC_pure _)) aM
 ·have g1:decide ((i:Int) < (l.length:Int))=false:=decide_eq_false (by omega)
  refine Wq<|Wq<|qW 8 11 rfl<|qM rfl<|qM rfl<|qK rfl<|Nl<|Wo rfl ‹_›<|Wx ?_
  exact ⟨.inr rfl,_,up mt 0 (some (objsC m)),RVs.nil,all_up rfl all_mt,m,hm,rfl,rfl⟩
set_option maxHeartbeats 1000000 in
theorem pdqO_any (l:List ObjR) (lim:Int) (h0:0 < l.length) (hl:l.length≤12):∃ v H',AFn Tryz.prog 218 1 [.osl 0 0 l.length 6,.base (.int .i64 0),.base (.int .i64 (l.length:Int)),.base (.int .i64 lim),cmpFn] (up mt 0 (some (objsC l))) v H'∧∃ m:List ObjR,SameO m l∧v=.tup []∧H'=up mt 0 (some (objsC m)):=by
 refine AFn.ex Tryz.func218 rfl rfl (Nat.le_of_ble_eq_true rfl) ?_
 obtain ⟨_,_,hins,m,hm,rfl,rfl⟩:=insertO_any l h0 hl
 have hne:=objsC_ne h0
 have g1:decide ((l.length:Int)≤12)=true:=decide_eq_true (by omega)
 unfold cmpFn at hins ⊢
 refine Wq<|qW 1 2 rfl<|qA rfl<|Nl<|Wq<|qW 6 7 rfl<|qA rfl<|Nl<|Wb<|W.rename [(0,0)] 1 (T':=up (up (up (up (up (up (up mt 0 (some (.osl 0 0 l.length 6))) 1 (some (.base (.int .i64 0)))) 2 (some (.base (.int .i64 (l.length:Int))))) 3 (some (.base (.int .i64 lim)))) 4 (some (.base (.func (.func 141) #[] #[])))) 10 (some (.base (.bool true)))) 11 (some (.base (.bool true)))) (H':=up mt 0 (some (objsC l))) (by decide) ?_ ?_ ?_
 ·exact aU (lR rfl) (aU (lR rfl) (aU (lR rfl) (aU (lR rfl) (aU (lR rfl) (aU (lR rfl) (aU (lI rfl) aM))))))
 ·exact aU (kP rfl (objsC_pure _)) aM
 refine W.loop_ind (α:=Nat) (fun x=>x) 1 (fun x=>up (up (up (up (up (up (up mt 0 (some (.osl 0 0 l.length 6))) 1 (some (.base (.int .i64 0)))) 2 (some (.base (.int .i64 (l.length:Int))))) 3 (some (.base (.int .i64 lim)))) 4 (some (.base (.func (.func 141) #[] #[])))) 10 (some (.base (.bool true)))) 11 (some (.base (.bool true)))) (fun x=>up mt 0 (some (objsC l))) (fun x=>x=0) 0 (show 0=0 from rfl) ?_
 rintro k hIA ihA
 try (dsimp only at hIA)
 try dsimp only
 clear ihA
 refine Wb<|Wq<|qW 11 15 rfl<|qM rfl<|qM rfl<|Od rfl rfl (LO.sub_in rfl rfl rfl (iW _ (by omega)))<|qA rfl<|Nl ?_
 rw [Int.sub_zero]
 refine Wq<|Wq<|qW 19 21 rfl<|qM rfl<|qLe rfl<|Nl<|Wt rfl ‹_›<|Wq<|qW 25 30 rfl<|qM rfl<|qM rfl<|qM rfl<|qM rfl<|Od rfl rfl (C1 (fr:=[]) rfl rfl (hins) fok278 (.osl rfl rfl (.cons rfl (.pure rfl) (.cons rfl (.pure rfl) (.cons rfl (.pure rfl) .nil)))) rfl (objsC_pure _) (objsC_pure _) hne (by decide) rfl)<|Nl<|Wz ⟨.inl rfl,_,(up mt 0 (some (objsC m))),Rv,(aU rfl aM),?_⟩
 exact ⟨m,hm,rfl,rfl⟩
theorem sortO_any (l:List ObjR) (h0:0 < l.length) (hl:l.length≤12):∃ v H',AFn Tryz.prog 140 1 [.osl 0 0 l.length 6,cmpFn] (up mt 0 (some (objsC l))) v H'∧∃ m:List ObjR,SameO m l∧v=.tup []∧H'=up mt 0 (some (objsC m)):=by
 refine AFn.ex Tryz.func140 rfl rfl (Nat.le_of_ble_eq_true rfl) ?_
 obtain ⟨_,_,hlen,k,rfl,rfl⟩:=len_any l.length (by omega)
 obtain ⟨_,_,hpd,m,hm,rfl,rfl⟩:=pdqO_any l k h0 hl
 have hne:=objsC_ne h0
 unfold cmpFn at hpd ⊢
 refine Wq<|qW 1 4 rfl<|qM rfl<|Od rfl rfl (LO.len rfl rfl ty26)<|qA rfl<|Nl<|qW 8 15 rfl<|qM rfl<|qM rfl<|qM rfl<|Od rfl rfl (Ci rfl rfl ty3 ty75 (IntWalk.u64_in _ (by omega)))<|qY rfl (hlen) fok137 rfl<|qM rfl<|Od rfl rfl (C1 (fr:=[]) rfl rfl (hpd) fok218 (.osl rfl rfl (.cons rfl (.pure rfl) (.cons rfl (.pure rfl) (.cons rfl (.pure rfl) (.cons rfl (.pure rfl) .nil))))) rfl (objsC_pure _) (objsC_pure _) hne (by decide) rfl)<|Nl ?_
 exact ⟨.inr rfl,_,up mt 0 (some (objsC m)),RVs.nil,all_up rfl all_mt,m,hm,rfl,rfl⟩
def eqObj (a b:ObjR):Bool:=eqPre a.p b.p && a.mx == b.mx && a.asn == b.asn
theorem eqObj_iff (a b:ObjR):eqObj a b=true↔a=b:=by
 obtain ⟨⟨⟨v,h,o⟩,n⟩,m,s⟩:=a
 obtain ⟨⟨⟨v',h',o'⟩,n'⟩,m',s'⟩:=b
 simp only [eqObj,eqPre,eqA,Bool.and_eq_true,beq_iff_eq,ObjR.mk.injEq,Pre.mk.injEq,Ad.mk.injEq,and_assoc]
theorem eqObj_in (d:Nat) (a b:ObjR) (w:World):(Op.equalIn (d + 4) 38 (.agg #[.bool a.p.ad.v6,.int .u64 a.p.ad.hi,.int .u64 a.p.ad.lo,.int .i64 a.p.len,.int .i64 a.mx,.int .i64 a.asn]) (.agg #[.bool b.p.ad.v6,.int .u64 b.p.ad.hi,.int .u64 b.p.ad.lo,.int .i64 b.p.len,.int .i64 b.mx,.int .i64 b.asn])).run Tryz.prog w=.ok (eqObj a b) w:=by
 rw [run_equalIn_struct w (d + 3) 38 _ _ (by kernel_rfl) (by kernel_rfl)]
 have hu:=Tryz.underlying38
 have hua:=Tryz.underlying36
 have hi:=Tryz.underlying3
 have sa:∀ w:World,(sizeOf 36).run Tryz.prog w=.ok 4 w:=fun w=>(ty36).sizeOf w
 have si:∀ w:World,(sizeOf 3).run Tryz.prog w=.ok 1 w:=fun w=>(ty3).sizeOf w
 have ea:=fun w=>eqPre_in d a.p b.p w
 simp [Program.fieldsOf,hu,Op.eqFields,part,isAgg,run_underlying hua,run_underlying hi,sa,si,run_equalIn_int _ _ _ _ _ _ _ hi,ea]
 unfold eqObj
 by_cases h:a.mx=b.mx<;>by_cases h2:a.asn=b.asn<;>cases eqPre a.p b.p<;>simp [h,h2]
theorem LO.eql_obj {o:Oper} {E:Operand→Option AV} {H:Hp} {f:Nat} {ty:TypeId} {x y:Operand} (a b:ObjR) (ho:o.op=.binOp .eql 38 x y ty) (hx:E x=some (.agg (objC a))) (hy:E y=some (.agg (objC b))):LO Tryz.prog o E H f [] [] (.base (.bool (eqObj a b))) H :=
 LO.eqBases false [.bool a.p.ad.v6,.int .u64 a.p.ad.hi,.int .u64 a.p.ad.lo,.int .i64 a.p.len,.int .i64 a.mx,.int .i64 a.asn] [.bool b.p.ad.v6,.int .u64 b.p.ad.hi,.int .u64 b.p.ad.lo,.int .i64 b.p.len,.int .i64 b.mx,.int .i64 b.asn] ho hx hy rfl rfl (guardRun x y false (by kernel_rfl)) (eqObj_in 9996 a b)
theorem LO.neq_obj {o:Oper} {E:Operand→Option AV} {H:Hp} {f:Nat} {ty:TypeId} {x y:Operand} (a b:ObjR) (ho:o.op=.binOp .neq 38 x y ty) (hx:E x=some (.agg (objC a))) (hy:E y=some (.agg (objC b))):LO Tryz.prog o E H f [] [] (.base (.bool (!(eqObj a b)))) H :=
 LO.eqBases true [.bool a.p.ad.v6,.int .u64 a.p.ad.hi,.int .u64 a.p.ad.lo,.int .i64 a.p.len,.int .i64 a.mx,.int .i64 a.asn] [.bool b.p.ad.v6,.int .u64 b.p.ad.hi,.int .u64 b.p.ad.lo,.int .i64 b.p.len,.int .i64 b.mx,.int .i64 b.asn] ho hx hy rfl rfl (guardRun x y true (by kernel_rfl)) (eqObj_in 9996 a b)
theorem objs_tk2 {l:List ObjR} {k j:Nat} (h:k + j < l.length):Tk (objsC l) (0 + k * 6 + j * 6) 6 (objC l[k + j]):=by
 rw [show 0 + k * 6 + j * 6=0 + (k + j) * 6 from by omega];exact objs_tk0 h
def SameM (m l:List ObjR):Prop:=∀ o,o∈m↔o∈l
theorem SameM.dup {l q:List ObjR} {k:Nat} (h:SameM q (l.take k)) (hk:k < l.length) (hm:l[k]∈l.take k):SameM q (l.take (k + 1)):=fun o=>by
 rw [take_s1 hk,List.mem_append,List.mem_singleton,h o]
 exact ⟨.inl,fun h2=>h2.elim id fun h3=>h3 ▸ hm⟩
theorem SameM.add {l q:List ObjR} {k:Nat} (h:SameM q (l.take k)) (hk:k < l.length):SameM (q++[l[k]]) (l.take (k + 1)):=fun o=>by
 rw [take_s1 hk,List.mem_append,List.mem_append,h o]
theorem mem_takeR {l:List ObjR} {j k:Nat} (h:j < k) (hl:j < l.length):l[j]∈l.take k:=by
 rw [List.mem_take_iff_getElem]
 exact ⟨j,by omega,rfl⟩
set_option maxHeartbeats 2000000 in
theorem compactO_any (l:List ObjR) (h0:0 < l.length) (hl:l.length≤1000):∃ v H',AFn Tryz.prog 142 1 [.osl 0 0 l.length 6] (up mt 0 (some (objsC l))) v H'∧∃ m:List ObjR,(SameM m l∧m.length≤l.length)∧v=.isl (objsC m) m.length∧H'=mt:=by
 refine AFn.ex Tryz.func142 rfl rfl (Nat.le_of_ble_eq_true rfl) ?_
 by_cases h2:l.length < 2
 ·have g0:decide ((l.length:Int) < 2)=true:=decide_eq_true (by omega)
  refine Wq<|qW 1 2 rfl<|qA rfl<|Nl<|Wq<|Wq<|qW 6 9 rfl<|qM rfl<|Od rfl rfl (LO.len rfl rfl ty26)<|qK rfl<|Nl<|Wt rfl ‹_›<|Wq<|qW 13 15 rfl<|qM rfl<|qA rfl<|Nl<|Wy (t:=2) rfl rfl (objs_all rfl) (objsC_pure _)<|Wz ⟨.inl rfl,_,mt,(Rc (Rt0 rfl) Rv),aM,?_⟩
  exact ⟨l,⟨fun _=>Iff.rfl,Nat.le_refl _⟩,rfl,rfl⟩
 have g0:decide ((l.length:Int) < 2)=false:=decide_eq_false (by omega)
 refine Wq<|qW 1 2 rfl<|qA rfl<|Nl<|Wq<|Wq<|qW 6 9 rfl<|qM rfl<|Od rfl rfl (LO.len rfl rfl ty26)<|qK rfl<|Nl<|Wo rfl ‹_›<|Wu<|Wq<|Wq<|qW 19 20 rfl<|qA rfl<|Nl<|Wb<|W.rename [(0,0)] 1 (T':=up (up mt 0 (some (.osl 0 0 l.length 6))) 3 (some (.base (.int .i64 (1:Int))))) (H':=up mt 0 (some (objsC l))) (by decide) ?_ ?_ ?_
 ·exact aU (lR rfl) (aU (lI rfl) aM)
 ·exact aU (kP rfl (objsC_pure _)) aM
 refine W.loop_ind (α:=Nat) (fun x=>l.length - x) 1 (fun x=>up (up mt 0 (some (.osl 0 0 l.length 6))) 3 (some (.base (.int .i64 (x:Int))))) (fun x=>up mt 0 (some (objsC l))) (fun x=>1≤x∧x≤l.length) 1 (show 1≤1∧1≤l.length from ⟨by omega,by omega⟩) ?_
 rintro k hIA ihA
 try (dsimp only at hIA)
 try dsimp only
 obtain ⟨hk1,hkl⟩:=hIA
 by_cases hc:k < l.length
 ·have g1:decide ((k:Int) < (l.length:Int))=true:=decide_eq_true (by omega)
  have hkk:(k:Int) + 1=((k + 1:Nat):Int):=by omega
  obtain ⟨k0,hk0⟩:∃ k0,k=k0 + 1:=⟨k - 1,by omega⟩
  have hkm:(k:Int) - 1=(k0:Int):=by omega
  have ht1:=objs_tk0 hc
  have ht0:=objs_tk0 (l:=l) (k:=k0) (by omega)
  have heq:eqObj l[k] l[k0]=true→SameM (l.take k) (l.take (k + 1)):=fun e=>SameM.dup (fun _=>Iff.rfl) hc (by rw [(eqObj_iff _ _).1 e];exact mem_takeR (by omega) (by omega))
  obtain ⟨a,ha⟩:∃ a,l[k]=a:=⟨_,rfl⟩
  obtain ⟨b,hb⟩:∃ b,l[k0]=b:=⟨_,rfl⟩
  rw [ha] at ht1
  rw [hb] at ht0
  rw [ha,hb] at heq
  cases hq:eqObj a b with
  | false =>
   refine Wq<|Wq<|qW 24 28 rfl<|qM rfl<|qM rfl<|Od rfl rfl (LO.len rfl rfl ty26)<|qK rfl<|Nl<|Wt rfl ‹_›<|Wu<|Wq<|Wb<|Wq<|Wd 32 42 (by decide) rfl mixed rfl<|qM rfl<|qM rfl<|Od rfl rfl (Ia rfl rfl rfl rfl ty26 ty38 (by omega))<|qG rfl ty38 rfl ht1<|qM rfl<|qM rfl<|Od rfl rfl (LO.sub_in rfl rfl rfl (iW _ (by omega)))<|Od rfl rfl (Ia rfl rfl rfl hkm ty26 ty38 (by omega))<|qG rfl ty38 rfl ht0<|Od rfl rfl (LO.eql_obj a b rfl rfl rfl)<|Nl ⟨by kernel_rfl,(Wo rfl ‹_›<|Wu<|qW 123 126 rfl<|qM rfl<|qZ rfl (iW _ (by omega))<|qA rfl<|Nl ?_)⟩
   rw [hkk]
   refine WL.rename [(0,0)] 1 (by decide) ?_ ?_ (ihA (k + 1) (show l.length - (k + 1) < l.length - k from by omega) (show 1≤(k + 1)∧(k + 1)≤l.length from ⟨by omega,by omega⟩))
   ·exact aU (lR rfl) (aU (lI rfl) aM)
   ·exact aU (kP rfl (objsC_pure _)) aM
  | true =>
   have hS:=heq hq
   clear ihA
   refine Wq<|Wq<|qW 24 28 rfl<|qM rfl<|qM rfl<|Od rfl rfl (LO.len rfl rfl ty26)<|qK rfl<|Nl<|Wt rfl ‹_›<|Wu<|Wq<|Wb<|Wq<|Wd 32 42 (by decide) rfl mixed rfl<|qM rfl<|qM rfl<|Od rfl rfl (Ia rfl rfl rfl rfl ty26 ty38 (by omega))<|qG rfl ty38 rfl ht1<|qM rfl<|qM rfl<|Od rfl rfl (LO.sub_in rfl rfl rfl (iW _ (by omega)))<|Od rfl rfl (Ia rfl rfl rfl hkm ty26 ty38 (by omega))<|qG rfl ty38 rfl ht0<|Od rfl rfl (LO.eql_obj a b rfl rfl rfl)<|Nl ⟨by kernel_rfl,(Wt rfl ‹_›<|Wq<|qW 46 50 rfl<|qM rfl<|qM rfl<|Od rfl rfl (LO.slice (m:=k) (n:=l.length) rfl rfl (Ba rfl rfl) Bnd.no (by omega) (Nat.le_refl _) ty26 ty38)<|qA rfl<|Nl<|Wq<|Wq<|qW 54 55 rfl<|qA rfl<|Nl<|Wb<|W.rename [(0,0)] 1 (T':=up (up (up (up mt 0 (some (.osl 0 0 l.length 6))) 3 (some (.base (.int .i64 (k:Int))))) 4 (some (.osl 0 (0 + k * 6) (l.length - k) 6))) 5 (some (.base (.int .i64 (1:Int))))) (H':=up mt 0 (some (objsC l))) (by decide) ?_ ?_ ?_)⟩
   ·exact aU (lR rfl) (aU (lI rfl) (aU (lR rfl) (aU (lI rfl) aM)))
   ·exact aU (kP rfl (objsC_pure _)) aM
   refine W.loop_ind (α:=Nat × Nat × List ObjR) (fun x=>l.length - k - x.2.1) 1 (fun x=>up (up (up (up mt 0 (some (.osl 0 0 l.length 6))) 3 (some (.base (.int .i64 (x.1:Int))))) 4 (some (.osl 0 (0 + k * 6) (l.length - k) 6))) 5 (some (.base (.int .i64 (x.2.1:Int))))) (fun x=>up mt 0 (some (objsC x.2.2))) (fun x=>(1≤x.2.1∧k + x.2.1≤l.length∧x.1 + 1≤k + x.2.1)∧x.2.2.length=l.length∧x.2.2.drop (k + x.2.1 - 1)=l.drop (k + x.2.1 - 1)∧SameM (x.2.2.take x.1) (l.take (k + x.2.1))) (k,1,l) (show (1≤1∧k + 1≤l.length∧k + 1≤k + 1)∧l.length=l.length∧l.drop (k + 1 - 1)=l.drop (k + 1 - 1)∧SameM (l.take k) (l.take (k + 1)) from ⟨⟨by omega,by omega,by omega⟩,rfl,rfl,hS⟩) ?_
   rintro ⟨q,k2,m⟩ hIB ihB
   try (dsimp only at hIB)
   try dsimp only
   obtain ⟨⟨hk21,hk2l,hqk⟩,hml,hmd,hmq⟩:=hIB
   obtain ⟨k3,hk3⟩:∃ k3,k2=k3 + 1:=⟨k2 - 1,by omega⟩
   have hk3m:(k2:Int) - 1=(k3:Int):=by omega
   by_cases hc2:k + k2 < l.length
   ·have g2:decide ((k2:Int) < ((l.length - k:Nat):Int))=true:=decide_eq_true (by omega)
    have hkk2:(k2:Int) + 1=((k2 + 1:Nat):Int):=by omega
    have hqq:(q:Int) + 1=((q + 1:Nat):Int):=by omega
    have ht1:=objs_tk2 (l:=m) (k:=k) (j:=k2) (by omega)
    have ht0:=objs_tk2 (l:=m) (k:=k) (j:=k3) (by omega)
    have e1:m[k + k2]'(by omega)=l[k + k2]:=get_dropR (by rw [show k + k2=k + k2 - 1 + 1 from by omega];exact drop_stepR hmd) hc2 hml
    have e0:m[k + k3]'(by omega)=l[k + k3]'(by omega):=get_dropR (by rw [show k + k3=k + k2 - 1 from by omega];exact hmd) (by omega) hml
    have hmd2:m.drop (k + (k2 + 1) - 1)=l.drop (k + (k2 + 1) - 1):=by
     rw [show k + (k2 + 1) - 1=k + k2 - 1 + 1 from by omega];exact drop_stepR hmd
    have hdup:eqObj (l[k + k2]) (l[k + k3]'(by omega))=true→SameM (m.take q) (l.take (k + (k2 + 1))):=fun e=>(show SameM (m.take q) (l.take (k + k2 + 1)) from SameM.dup hmq hc2 (by rw [(eqObj_iff _ _).1 e];exact mem_takeR (by omega) (by omega)))
    have hadd:=SameM.add hmq hc2
    rw [e1] at ht1
    rw [e0] at ht0
    obtain ⟨a,ha⟩:∃ a,l[k + k2]=a:=⟨_,rfl⟩
    obtain ⟨b,hb⟩:∃ b,l[k + k3]'(by omega)=b:=⟨_,rfl⟩
    rw [ha] at ht1 hadd
    rw [hb] at ht0
    rw [ha,hb] at hdup
    have hsp:=objs_sp (l:=m) (i:=q) a (by omega)
    cases hq2:eqObj a b with
    | true =>
     have hq3:(!(eqObj a b))=false:=by rw [hq2];rfl
     have hd:=hdup hq2
     refine Wq<|Wq<|qW 59 63 rfl<|qM rfl<|qM rfl<|Od rfl rfl (LO.len rfl rfl ty26)<|qK rfl<|Nl<|Wt rfl ‹_›<|Wu<|Wq<|Wb<|Wq<|Wd 67 77 (by decide) rfl mixed rfl<|qM rfl<|qM rfl<|Od rfl rfl (Ia rfl rfl rfl rfl ty26 ty38 (by omega))<|qG rfl ty38 rfl ht1<|qM rfl<|qM rfl<|Od rfl rfl (LO.sub_in rfl rfl rfl (iW _ (by omega)))<|Od rfl rfl (Ia rfl rfl rfl hk3m ty26 ty38 (by omega))<|qG rfl ty38 rfl ht0<|Od rfl rfl (LO.neq_obj a b rfl rfl rfl)<|Nl ⟨by kernel_rfl,(Wo rfl ‹_›<|Wu<|qW 100 103 rfl<|qM rfl<|qZ rfl (iW _ (by omega))<|qA rfl<|Nl ?_)⟩
     rw [hkk2]
     refine WL.rename [(0,0)] 1 (by decide) ?_ ?_ (ihB (q,(k2 + 1),m) (show l.length - k - (k2 + 1) < l.length - k - k2 from by omega) (show (1≤(k2 + 1)∧k + (k2 + 1)≤l.length∧q + 1≤k + (k2 + 1))∧m.length=l.length∧m.drop (k + (k2 + 1) - 1)=l.drop (k + (k2 + 1) - 1)∧SameM (m.take q) (l.take (k + (k2 + 1))) from ⟨⟨by omega,by omega,by omega⟩,hml,hmd2,hd⟩))
     ·exact aU (lR rfl) (aU (lI rfl) (aU (lR rfl) (aU (lI rfl) aM)))
     ·exact aU (kP rfl (objsC_pure _)) aM
    | false =>
     have hq3:(!(eqObj a b))=true:=by rw [hq2];rfl
     refine Wq<|Wq<|qW 59 63 rfl<|qM rfl<|qM rfl<|Od rfl rfl (LO.len rfl rfl ty26)<|qK rfl<|Nl<|Wt rfl ‹_›<|Wu<|Wq<|Wb<|Wq<|Wd 67 77 (by decide) rfl mixed rfl<|qM rfl<|qM rfl<|Od rfl rfl (Ia rfl rfl rfl rfl ty26 ty38 (by omega))<|qG rfl ty38 rfl ht1<|qM rfl<|qM rfl<|Od rfl rfl (LO.sub_in rfl rfl rfl (iW _ (by omega)))<|Od rfl rfl (Ia rfl rfl rfl hk3m ty26 ty38 (by omega))<|qG rfl ty38 rfl ht0<|Od rfl rfl (LO.neq_obj a b rfl rfl rfl)<|Nl ⟨by kernel_rfl,(Wt rfl ‹_›<|Wq<|qW 81 89 rfl<|qM rfl<|qM rfl<|qM rfl<|qM rfl<|Od rfl rfl (Ia rfl rfl rfl rfl ty26 ty38 (by omega))<|qG rfl ty38 rfl ht1<|Od rfl rfl (Ia rfl rfl rfl rfl ty26 ty38 (by omega))<|qS rfl ty38 hsp rfl<|Nl<|qW 93 96 rfl<|qM rfl<|qZ rfl (iW _ (by omega))<|qA rfl<|Nl ?_)⟩
     rw [hqq]
     refine qW 100 103 rfl<|qM rfl<|qZ rfl (iW _ (by omega))<|qA rfl<|Nl ?_
     rw [hkk2]
     refine WL.rename [(0,0)] 1 (by decide) ?_ ?_ (ihB ((q + 1),(k2 + 1),(m.set q a)) (show l.length - k - (k2 + 1) < l.length - k - k2 from by omega) (show (1≤(k2 + 1)∧k + (k2 + 1)≤l.length∧(q + 1) + 1≤k + (k2 + 1))∧(m.set q a).length=l.length∧(m.set q a).drop (k + (k2 + 1) - 1)=l.drop (k + (k2 + 1) - 1)∧SameM ((m.set q a).take (q + 1)) (l.take (k + (k2 + 1))) from ⟨⟨by omega,by omega,by omega⟩,by simpa using hml,by rw [drop_setR (by omega)];exact hmd2,by rw [take_setR (by omega)];exact hadd⟩))
     ·exact aU (lR rfl) (aU (lI rfl) (aU (lR rfl) (aU (lI rfl) aM)))
     ·exact aU (kP rfl (objsC_pure _)) aM
   ·have g2:decide ((k2:Int) < ((l.length - k:Nat):Int))=false:=decide_eq_false (by omega)
    rw [show k + k2=l.length from by omega,List.take_length] at hmq
    have hlen:(m.take q).length=q:=by rw [List.length_take];omega
    have hcl:=objs_clr (l:=m) (i:=q) (by omega)
    rw [hml] at hcl
    clear ihB
    refine Wq<|Wq<|qW 59 63 rfl<|qM rfl<|qM rfl<|Od rfl rfl (LO.len rfl rfl ty26)<|qK rfl<|Nl<|Wo rfl ‹_›<|Wx<|Wq<|qW 107 111 rfl<|qM rfl<|qM rfl<|Od rfl rfl (LO.slice (m:=q) (n:=l.length) rfl rfl (Ba rfl rfl) Bnd.no (by omega) (Nat.le_refl _) ty26 ty38)<|On rfl rfl (LO.clear rfl rfl rfl hcl ty26 ty38 (by decide) (by omega))<|Nl<|Wq<|qW 115 119 rfl<|qM rfl<|qM rfl<|Od rfl rfl (LO.slice (m:=0) (n:=q) rfl rfl Bnd.no (Ba rfl rfl) (by omega) (by omega) ty26 ty38)<|qA rfl<|Nl<|Wy (t:=2) rfl rfl (objs_pre (n:=q - 0) (by omega)) (objsC_pure _)<|Wz ⟨.inl rfl,_,mt,(Rc (Rt0 rfl) Rv),aM,?_⟩
    exact ⟨m.take q,⟨hmq,by omega⟩,by rw [hlen];rfl,rfl⟩
 ·have g1:decide ((k:Int) < (l.length:Int))=false:=decide_eq_false (by omega)
  refine Wq<|Wq<|qW 24 28 rfl<|qM rfl<|qM rfl<|Od rfl rfl (LO.len rfl rfl ty26)<|qK rfl<|Nl<|Wo rfl ‹_›<|Wx<|Wq<|qW 130 132 rfl<|qM rfl<|qA rfl<|Nl<|Wy (t:=2) rfl rfl (objs_all rfl) (objsC_pure _)<|Wz ⟨.inl rfl,_,mt,(Rc (Rt0 rfl) Rv),aM,?_⟩
  exact ⟨l,⟨fun _=>Iff.rfl,Nat.le_refl _⟩,rfl,rfl⟩
theorem oclone_any (l:List ObjR) (h:0 < l.length) (hl:l.length≤1000):AFn Tryz.prog 85 0 [.isl (objsC l) l.length] mt (.osl 0 0 l.length 6) (up mt 0 (some (objsC l))):=by
 refine AFn.eq Tryz.func85 rfl rfl (Nat.le_of_ble_eq_true rfl) ?_
 have hz:=objsC_len l
 refine Wq<|qW 0 1 rfl<|qA rfl<|Nl<|Wq<|Wq<|qW 5 7 rfl<|qM rfl<|Od rfl rfl (LO.eqNilI rfl rfl rfl h rfl ty26)<|Nl<|Wo rfl rfl<|Wu<|Wq<|qW 16 20 rfl<|Od rfl rfl (LO.buildSlice rfl ty26 ty38 (by decide) (by decide) .nil)<|qM rfl<|Od rfl rfl (Lap rfl rfl (Ssi rfl rfl hz) rfl (Tl rfl) ty26 ty26 ty38 (by decide) (by omega) (by omega) (by decide))<|qA rfl<|Nl ?_
 rw [List.nil_append,show 0 + l.length=l.length from Nat.zero_add _]
 refine W.rename [(0,18)] 1 (T':=up mt 2 (some (.osl 0 0 l.length 6))) (H':=up mt 0 (some (objsC l))) (by decide) ?_ ?_ ?_
 ·exact aU (lI rfl) aM
 ·exact aU (kP rfl (objsC_pure _)) aM
 refine Wz ⟨.inl rfl,_,(up mt 0 (some (objsC l))),(Rc (Rt0 rfl) Rv),(aU rfl aM),?_⟩
 exact ⟨rfl,rfl⟩
theorem oclone_nil:AFn Tryz.prog 85 0 [.isl [] 0] mt (.isl [] 0) mt:=by
 refine AFn.empty0 fun A cap=>?_
 refine AFn.eq Tryz.func85 rfl rfl (Nat.le_of_ble_eq_true rfl) ?_
 cases A with
 | none =>
  refine Wq<|qW 0 1 rfl<|qA rfl<|Nl<|Wq<|Wq<|qW 5 7 rfl<|qM rfl<|Od rfl rfl (LO.eqNilB rfl rfl rfl ty26)<|Nl<|Wt rfl rfl<|Wq<|qW 11 12 rfl<|qA rfl<|Nl<|W.nilt (t:=2) rfl<|Wz ⟨.inl rfl,_,mt,(Rc (Rt0 rfl) Rv),aM,?_⟩
  exact ⟨rfl,rfl⟩
 | some a =>
  refine Wq<|qW 0 1 rfl<|qA rfl<|Nl<|Wq<|Wq<|qW 5 7 rfl<|qM rfl<|Od rfl rfl (LO.eqNilB rfl rfl rfl ty26)<|Nl<|Wo rfl rfl<|Wu<|W.conv (t:=0) (y:=.isl [] 0) rfl (fun X φ w v h=>by rw [h.base_eq];exact .isl0 _ _) (Wq<|qW 16 20 rfl<|Od rfl rfl (LO.buildSlice rfl ty26 ty38 (by decide) (by decide) .nil)<|qM rfl<|Od rfl rfl (Lap rfl rfl (Ssi (m:=0) (sz:=6) rfl rfl rfl) rfl (Tl rfl) ty26 ty26 ty38 (by decide) (by decide) (by decide) (by decide))<|qA rfl<|Nl<|Wy (t:=2) rfl rfl (vs:=[]) (Tl rfl) rfl<|Wz ⟨.inl rfl,_,mt,(Rc (Rt0 rfl) Rv),aM,?_⟩)
  exact ⟨rfl,rfl⟩
theorem insertO_nil:AFn Tryz.prog 278 0 [.isl [] 0,.base (.int .i64 0),.base (.int .i64 0),cmpFn] mt (.tup []) mt:=by
 refine AFn.eq Tryz.func278 rfl rfl (Nat.le_of_ble_eq_true rfl) ?_
 unfold cmpFn
 refine Wq<|qW 0 3 rfl<|qM rfl<|qZ rfl (iW _ (by omega))<|qA rfl<|Nl<|Wb<|W.rename [] 0 (T':=up (up mt 2 (some (.base (.int .i64 0)))) 8 (some (.base (.int .i64 1)))) (H':=mt) (by decide) ?_ ?_ ?_
 ·exact aU (lR rfl) (aU (lR rfl) aM)
 ·exact aM
 refine W.loop_ind (α:=Nat) (fun x=>x) 0 (fun x=>up (up mt 2 (some (.base (.int .i64 0)))) 8 (some (.base (.int .i64 1)))) (fun x=>mt) (fun x=>x=0) 0 (show 0=0 from rfl) ?_
 rintro k hIA ihA
 try (dsimp only at hIA)
 try dsimp only
 clear ihA
 refine Wq<|Wq<|qW 7 10 rfl<|qM rfl<|qM rfl<|qK rfl<|Nl<|Wo rfl rfl<|Wx ?_
 exact ⟨.inr rfl,_,mt,RVs.nil,all_mt,rfl,rfl⟩
theorem pdqO_nil (lim:Int):AFn Tryz.prog 218 0 [.isl [] 0,.base (.int .i64 0),.base (.int .i64 0),.base (.int .i64 lim),cmpFn] mt (.tup []) mt:=by
 refine AFn.eq Tryz.func218 rfl rfl (Nat.le_of_ble_eq_true rfl) ?_
 have hins:=insertO_nil
 unfold cmpFn at hins ⊢
 refine Wq<|qW 0 1 rfl<|qA rfl<|Nl<|Wq<|qW 5 6 rfl<|qA rfl<|Nl<|Wb<|W.rename [] 0 (T':=up (up (up (up mt 0 (some (.isl [] 0))) 1 (some (.base (.int .i64 0)))) 2 (some (.base (.int .i64 0)))) 4 (some (.base (.func (.func 141) #[] #[])))) (H':=mt) (by decide) ?_ ?_ ?_
 ·exact aU (lR rfl) (aU (lR rfl) (aU (lR rfl) (aU (lR rfl) aM)))
 ·exact aM
 refine W.loop_ind (α:=Nat) (fun x=>x) 0 (fun x=>up (up (up (up mt 0 (some (.isl [] 0))) 1 (some (.base (.int .i64 0)))) 2 (some (.base (.int .i64 0)))) 4 (some (.base (.func (.func 141) #[] #[])))) (fun x=>mt) (fun x=>x=0) 0 (show 0=0 from rfl) ?_
 rintro k hIA ihA
 try (dsimp only at hIA)
 try dsimp only
 clear ihA
 refine Wb<|Wq<|qW 10 14 rfl<|qM rfl<|qM rfl<|Od rfl rfl (LO.sub_in rfl rfl rfl (iW _ (by omega)))<|qA rfl<|Nl<|Wq<|Wq<|qW 18 20 rfl<|qM rfl<|qLe rfl<|Nl<|Wt rfl rfl<|Wq<|qW 24 29 rfl<|qM rfl<|qM rfl<|qM rfl<|qM rfl<|qY rfl (hins) fok278 rfl<|Nl<|Wz ⟨.inl rfl,_,mt,Rv,aM,?_⟩
 exact ⟨rfl,rfl⟩
theorem sortO_nil:AFn Tryz.prog 140 0 [.isl [] 0,cmpFn] mt (.tup []) mt:=by
 refine AFn.eq Tryz.func140 rfl rfl (Nat.le_of_ble_eq_true rfl) ?_
 obtain ⟨_,_,hlen,k,rfl,rfl⟩:=len_any 0 (by decide)
 have hpd:=pdqO_nil k
 unfold cmpFn at hpd ⊢
 refine Wq<|qW 0 3 rfl<|qM rfl<|qH rfl ty26<|qA rfl<|Nl<|qW 7 14 rfl<|qM rfl<|qM rfl<|qM rfl<|Od rfl rfl (Ci rfl rfl ty3 ty75 (IntWalk.u64_in _ (by omega)))<|qY rfl (hlen) fok137 rfl<|qM rfl<|Od rfl rfl (C0 (fr:=[]) rfl rfl (hpd) fok218 (qArgs rfl rfl) rfl)<|Nl ?_
 exact ⟨.inr rfl,_,mt,RVs.nil,all_mt,rfl,rfl⟩
theorem compactO_nil:AFn Tryz.prog 142 0 [.isl [] 0] mt (.isl [] 0) mt:=by
 refine AFn.eq Tryz.func142 rfl rfl (Nat.le_of_ble_eq_true rfl)<|Wq<|qW 0 1 rfl<|qA rfl<|Nl<|Wq<|Wq<|qW 5 8 rfl<|qM rfl<|qH rfl ty26<|qK rfl<|Nl<|Wt rfl rfl<|Wq<|qW 12 14 rfl<|qM rfl<|qA rfl<|Nl<|Wz ⟨.inl rfl,_,mt,(Rc (Rt0 rfl) Rv),aM,?_⟩
 exact ⟨rfl,rfl⟩
theorem ordered_nil:AFn Tryz.prog 83 0 [.isl [] 0] mt (.isl [] 0) mt:=by
 refine AFn.eq Tryz.func83 rfl rfl (Nat.le_of_ble_eq_true rfl) ?_
 have h1:=oclone_nil
 have h2:=sortO_nil
 have h3:=compactO_nil
 unfold cmpFn at h2
 refine Wq<|qW 0 1 rfl<|qA rfl<|Nl<|Wq<|qW 5 8 rfl<|qM rfl<|qY rfl (h1) fok85 rfl<|qA rfl<|Nl<|Wq<|qW 12 14 rfl<|qM rfl<|qY rfl (h2) fok140 rfl<|Nl<|Wq<|qW 18 21 rfl<|qM rfl<|qY rfl (h3) fok142 rfl<|qA rfl<|Nl<|Wz ⟨.inl rfl,_,mt,(Rc (Rt0 rfl) Rv),aM,?_⟩
 exact ⟨rfl,rfl⟩
theorem ordered_pos (l:List ObjR) (h0:0 < l.length) (hl:l.length≤12):∃ v H',AFn Tryz.prog 83 0 [.isl (objsC l) l.length] mt v H'∧∃ m:List ObjR,(SameM m l∧m.length≤l.length)∧v=.isl (objsC m) m.length∧H'=mt:=by
 refine AFn.ex Tryz.func83 rfl rfl (Nat.le_of_ble_eq_true rfl) ?_
 have h1:=oclone_any l h0 (by omega)
 obtain ⟨_,_,h2,m,hm,rfl,rfl⟩:=sortO_any l h0 hl
 have hml:=hm.len
 obtain ⟨_,_,h3,q,⟨hq,hql⟩,rfl,rfl⟩:=compactO_any m (by omega) (by omega)
 rw [hml] at h3
 have hne:=objsC_ne h0
 have hne2:=objsC_ne (l:=m) (by omega)
 unfold cmpFn at h2
 refine Wq<|qW 0 1 rfl<|qA rfl<|Nl<|Wq<|qW 5 8 rfl<|qM rfl<|Od rfl rfl (LO.callO (fr:=[]) rfl rfl (h1) fok85 (.cons rfl (.pure rfl) .nil) (objsC_pure _) (by decide))<|qA rfl<|Nl<|Wq<|qW 12 14 rfl<|qM rfl<|Od rfl rfl (C1 (fr:=[]) rfl rfl (h2) fok140 (.osl rfl rfl (.cons rfl (.pure rfl) .nil)) rfl (objsC_pure _) (objsC_pure _) hne (by decide) rfl)<|Nl<|Wq<|qW 18 21 rfl<|qM rfl<|Od rfl rfl (LO.callD (fr:=[]) rfl rfl (h3) fok142 (.osl rfl rfl .nil) rfl (objsC_pure _) rfl hne2 (by decide) (by decide) (by decide))<|qA rfl<|Nl<|Wz ⟨.inl rfl,_,mt,(Rc (Rt0 rfl) Rv),aM,?_⟩
 exact ⟨q,⟨fun o=>(hq o).trans (hm.mem o),by omega⟩,rfl,rfl⟩
theorem ordered_any (l:List ObjR) (hl:l.length≤12):∃ m:List ObjR,(SameM m l∧m.length≤l.length)∧AFn Tryz.prog 83 0 [.isl (objsC l) l.length] mt (.isl (objsC m) m.length) mt:=by
 by_cases h0:0 < l.length
 ·obtain ⟨_,_,h,m,hm,rfl,rfl⟩:=ordered_pos l h0 hl
  exact ⟨m,hm,h⟩
 ·obtain rfl:l=[]:=List.length_eq_zero_iff.1 (by omega)
  exact ⟨[],⟨fun _=>Iff.rfl,Nat.le_refl _⟩,ordered_nil⟩
theorem indexO_nil (as_:List Int):AFn Tryz.prog 143 0 [.isl [] 0,ownV as_] mt (.base (.int .i64 (-1))) mt:=by
 refine AFn.eq Tryz.func143 rfl rfl (Nat.le_of_ble_eq_true rfl)<|Wq<|qW 0 1 rfl<|qA rfl<|Nl<|Wq<|Wq<|qW 5 8 rfl<|qM rfl<|qH rfl ty26<|qM rfl<|Nl<|Wb<|W.rename [] 0 (T':=up (up mt 7 (some (.base (.int .i64 0)))) 8 (some (.base (.int .i64 0)))) (H':=mt) (by decide) ?_ ?_ ?_
 ·exact aU (lR rfl) (aU (lR rfl) aM)
 ·exact aM
 refine W.loop_ind (α:=Nat) (fun x=>x) 0 (fun x=>up (up mt 7 (some (.base (.int .i64 0)))) 8 (some (.base (.int .i64 0)))) (fun x=>mt) (fun x=>x=0) 0 (show 0=0 from rfl) ?_
 rintro k hIA ihA
 try (dsimp only at hIA)
 try dsimp only
 clear ihA
 refine Wq<|qW 12 13 rfl<|qK rfl<|Nl<|Wq<|Wo rfl rfl<|Wx<|Wq<|qW 45 46 rfl<|qA rfl<|Nl<|Wz ⟨.inl rfl,_,mt,(Rc (Rt0 rfl) Rv),aM,?_⟩
 exact ⟨rfl,rfl⟩
theorem deleteO_nil (as_:List Int):AFn Tryz.prog 84 0 [.isl [] 0,ownV as_] mt (.isl [] 0) mt:=by
 refine AFn.eq Tryz.func84 rfl rfl (Nat.le_of_ble_eq_true rfl) ?_
 have h1:=indexO_nil as_
 unfold ownV at h1 ⊢
 refine Wq<|qW 0 1 rfl<|qA rfl<|Nl<|Wq<|qW 5 9 rfl<|qM rfl<|qM rfl<|qY rfl (h1) fok143 rfl<|qA rfl<|Nl<|Wq<|Wq<|qW 13 15 rfl<|qM rfl<|qE rfl<|Nl<|Wt rfl rfl<|Wq<|qW 19 21 rfl<|qM rfl<|qA rfl<|Nl<|Wz ⟨.inl rfl,_,mt,(Rc (Rt0 rfl) Rv),aM,?_⟩
 exact ⟨rfl,rfl⟩
theorem own_any (ss:List SetR) (os:List ObjR) (as_:List Int) (hl:os.length≤12) (ha:as_.length≤1000):∃ m:List ObjR,(SameM m (os.filter (kpO as_))∧m.length≤12)∧AFn Tryz.prog 44 0 [.agg (regC ss os),.isl (intsC as_) as_.length] mt (.isl (objsC m) m.length) mt:=by
 have hfl:(os.filter (kpO as_)).length≤os.length:=List.length_filter_le _ _
 obtain ⟨m,⟨hm,hml⟩,ho⟩:=ordered_any (os.filter (kpO as_)) (by omega)
 refine ⟨m,⟨hm,by omega⟩,?_⟩
 refine AFn.eq Tryz.func44 rfl rfl (Nat.le_of_ble_eq_true rfl) ?_
 unfold regC
 by_cases h0:0 < os.length
 ·have h1:=oclone_any os h0 (by omega)
  have h2:=deleteO_any os as_ (by omega) ha h0
  have hne:=objsC_ne h0
  unfold ownV at h2
  refine Wq<|qW 0 3 rfl<|qC rfl<|qC rfl<|qA rfl<|Nl<|W.frzo (t:=3) rfl rfl rfl<|Wq<|qW 7 14 rfl<|qF rfl ty28 rfl<|qL rfl ty26 rfl<|Od rfl rfl (LO.callO (fr:=[]) rfl rfl (h1) fok85 (.cons rfl (.pure rfl) .nil) (objsC_pure _) (by decide))<|Od rfl rfl (LO.makeClo (cs:=[.imm [.isl (intsC as_) as_.length] 0]) rfl rfl rfl)<|Od rfl rfl (LO.callD (fr:=[]) rfl rfl (h2) fok84 (.osl rfl rfl (.cons rfl (.pure rfl) .nil)) rfl (objsC_pure _) rfl hne (by decide) (by decide) (by decide))<|qY rfl (ho) fok83 rfl<|qA rfl<|Nl<|Wz ⟨.inl rfl,_,mt,(Rc (Rt0 rfl) Rv),aM,?_⟩
  exact ⟨rfl,rfl⟩
 ·obtain rfl:os=[]:=List.length_eq_zero_iff.1 (by omega)
  have h1:=oclone_nil
  have h2:=deleteO_nil as_
  unfold ownV at h2
  refine Wq<|qW 0 3 rfl<|qC rfl<|qC rfl<|qA rfl<|Nl<|W.frzo (t:=3) rfl rfl rfl<|Wq<|qW 7 14 rfl<|qF rfl ty28 rfl<|qL rfl ty26 rfl<|qY rfl (h1) fok85 rfl<|Od rfl rfl (LO.makeClo (cs:=[.imm [.isl (intsC as_) as_.length] 0]) rfl rfl rfl)<|qY rfl (h2) fok84 rfl<|qY rfl (ho) fok83 rfl<|qA rfl<|Nl<|Wz ⟨.inl rfl,_,mt,(Rc (Rt0 rfl) Rv),aM,?_⟩
  exact ⟨rfl,rfl⟩
theorem prm_same {p:Pre} {og:Int} {as_:List Int} {m os:List ObjR} (hm:SameM m (os.filter (kpO as_))) (ho:og∈as_):prmK cvP p og 11 7 9 m 11=prmK cvP p og 11 7 9 os 11:=by
 have hme:∀ o,(o∈m∧o.asn=og)↔(o∈os∧o.asn=og):=fun o=>by
  rw [hm o,List.mem_filter]
  constructor
  ·rintro ⟨⟨h1,_⟩,h2⟩;exact ⟨h1,h2⟩
  ·rintro ⟨h1,h2⟩;exact ⟨⟨h1,by unfold kpO;rw [h2];exact decide_eq_true ho⟩,h2⟩
 have ex1:(∃ o∈m,o.asn=og∧cvP o.p p=true∧p.len≤o.mx)↔∃ o∈os,o.asn=og∧cvP o.p p=true∧p.len≤o.mx :=
  ⟨fun ⟨o,h1,h2,h3⟩=>⟨o,((hme o).1 ⟨h1,h2⟩).1,h2,h3⟩,fun ⟨o,h1,h2,h3⟩=>⟨o,((hme o).2 ⟨h1,h2⟩).1,h2,h3⟩⟩
 have ex2:(∃ o∈m,o.asn=og∧cvP o.p p=true)↔∃ o∈os,o.asn=og∧cvP o.p p=true :=
  ⟨fun ⟨o,h1,h2,h3⟩=>⟨o,((hme o).1 ⟨h1,h2⟩).1,h2,h3⟩,fun ⟨o,h1,h2,h3⟩=>⟨o,((hme o).2 ⟨h1,h2⟩).1,h2,h3⟩⟩
 have ex3:(∃ o∈m,o.asn=og)↔∃ o∈os,o.asn=og :=
  ⟨fun ⟨o,h1,h2⟩=>⟨o,((hme o).1 ⟨h1,h2⟩).1,h2⟩,fun ⟨o,h1,h2⟩=>⟨o,((hme o).2 ⟨h1,h2⟩).1,h2⟩⟩
 rw [prmK_spec (by decide) (by decide) (by decide) m 11 (.inl rfl),prmK_spec (by decide) (by decide) (by decide) os 11 (.inl rfl)]
 simp only [ex1,ex2,ex3]
def pmtV (p:Pre) (og:Int) (as_:List Int) (os:List ObjR):Int:=if og∈as_ then prmK cvP p og 11 7 9 os 11 else 17
theorem permitted_err (ss:List SetR) (os:List ObjR) (asn og:Int) (nm:ByteArray) (p:Pre) (hss:SetsOk ss) (hos:ObjsOk os) (hne:(!(nm.toList == (⟨#[]⟩:ByteArray).toList))=true)
 (hE:AFn Tryz.prog 16 0 [.agg (regC ss os),.base (.string nm)] mt (.tup [.nils,.nils,.base (.int .i64 11)]) mt):AFn Tryz.prog 17 0 [.agg (regC ss os),.base (.int .i64 asn),.base (.string nm),.agg (preC p),.base (.int .i64 og)] mt (.base (.int .i64 11)) mt:=by
 refine AFn.eq Tryz.func17 rfl rfl (Nat.le_of_ble_eq_true rfl) ?_
 have hvalid:=ivalid_any ss os hss hos
 unfold regC at hvalid hE ⊢
 refine Wq<|qW 0 3 rfl<|qC rfl<|qC rfl<|qA rfl<|Nl<|Wq<|Wq<|qW 7 10 rfl<|qG rfl ty28 rfl (Tl rfl)<|qY rfl (hvalid) fok38 rfl<|qO rfl<|Nl<|Wo rfl rfl<|Wu<|Wq<|qW 19 22 rfl<|qM rfl<|Od rfl rfl (LO.buildSlice rfl ty22 ty3 (by decide) (by decide) (.cons rfl rfl rfl rfl (Sl rfl) .nil))<|qA rfl<|Nl<|Wq<|Wq<|qW 26 28 rfl<|qM rfl<|Od rfl rfl (LO.neq_str rfl rfl rfl)<|Nl<|Wt rfl ‹_›<|Wq<|qW 32 42 rfl<|qG rfl ty28 rfl (Tl rfl)<|qM rfl<|qY rfl (hE) fok16 rfl<|qM rfl<|qX rfl<|qX rfl<|qX rfl<|qA rfl<|qA rfl<|qA rfl<|Nl<|Wq<|Wq<|qW 46 48 rfl<|qM rfl<|qN rfl<|Nl<|Wt rfl rfl<|Wq<|qW 52 54 rfl<|qM rfl<|qA rfl<|Nl<|Wz ⟨.inl rfl,_,mt,(Rc (Rt0 rfl) Rv),aM,?_⟩
 exact ⟨rfl,rfl⟩
theorem permitted_none (ss:List SetR) (os:List ObjR) (asn og:Int) (p:Pre) (hss:SetsOk ss) (hos:ObjsOk os) (hp:PreOk p):AFn Tryz.prog 17 0 [.agg (regC ss os),.base (.int .i64 asn),.base (.string ⟨#[]⟩),.agg (preC p),.base (.int .i64 og)] mt (.base (.int .i64 (pmtV p og [asn] os))) mt:=by
 refine AFn.eq Tryz.func17 rfl rfl (Nat.le_of_ble_eq_true rfl) ?_
 have hvalid:=ivalid_any ss os hss hos
 have hol:=hos.len
 have hct:=contains_ints [asn] og (by simp)
 obtain ⟨m,⟨hm,hml⟩,hown⟩:=own_any ss os [asn] (by omega) (by simp)
 have hpm:=permits_any m p og hp (fun o ho=>(hos.ok o (List.mem_filter.1 ((hm o).1 ho)).1).p) (by omega)
 have hne:(!((⟨#[]⟩:ByteArray).toList == (⟨#[]⟩:ByteArray).toList))=false:=by simp
 unfold regC at hvalid hown ⊢
 by_cases ho:og∈[asn]
 ·have hd:decide (og∈[asn])=true:=decide_eq_true ho
  rw [hd] at hct
  rw [prm_same hm ho] at hpm
  have hR:pmtV p og [asn] os=prmK cvP p og 11 7 9 os 11:=if_pos ho
  rw [hR]
  refine Wq<|qW 0 3 rfl<|qC rfl<|qC rfl<|qA rfl<|Nl<|Wq<|Wq<|qW 7 10 rfl<|qG rfl ty28 rfl (Tl rfl)<|qY rfl (hvalid) fok38 rfl<|qO rfl<|Nl<|Wo rfl rfl<|Wu<|Wq<|qW 19 22 rfl<|qM rfl<|Od rfl rfl (LO.buildSlice rfl ty22 ty3 (by decide) (by decide) (.cons rfl rfl rfl rfl (Sl rfl) .nil))<|qA rfl<|Nl<|Wy (t:=11) rfl rfl (ints_tk (l:=[asn]) rfl) (intsC_pure _)<|Wq<|Wq<|qW 26 28 rfl<|qM rfl<|Od rfl rfl (LO.neq_str rfl rfl rfl)<|Nl<|Wo rfl ‹_›<|Wu<|Wq<|Wq<|qW 66 70 rfl<|qM rfl<|qM rfl<|qY rfl (hct) fok43 rfl<|qO rfl<|Nl<|Wo rfl rfl<|Wu<|Wq<|Wd 79 86 (by decide) rfl mixed rfl<|qG rfl ty28 rfl (Tl rfl)<|qM rfl<|qY rfl (hown) fok44 rfl<|qG rfl ty36 rfl (Tl rfl)<|qM rfl<|qY rfl (hpm) fok14 rfl<|qA rfl<|Nl ⟨by kernel_rfl,(Wz ⟨.inl rfl,_,mt,(Rc (Rt0 rfl) Rv),aM,?_⟩)⟩
  exact ⟨rfl,rfl⟩
 ·have hd:decide (og∈[asn])=false:=decide_eq_false ho
  rw [hd] at hct
  have hR:pmtV p og [asn] os=17:=if_neg ho
  rw [hR]
  refine Wq<|qW 0 3 rfl<|qC rfl<|qC rfl<|qA rfl<|Nl<|Wq<|Wq<|qW 7 10 rfl<|qG rfl ty28 rfl (Tl rfl)<|qY rfl (hvalid) fok38 rfl<|qO rfl<|Nl<|Wo rfl rfl<|Wu<|Wq<|qW 19 22 rfl<|qM rfl<|Od rfl rfl (LO.buildSlice rfl ty22 ty3 (by decide) (by decide) (.cons rfl rfl rfl rfl (Sl rfl) .nil))<|qA rfl<|Nl<|Wy (t:=11) rfl rfl (ints_tk (l:=[asn]) rfl) (intsC_pure _)<|Wq<|Wq<|qW 26 28 rfl<|qM rfl<|Od rfl rfl (LO.neq_str rfl rfl rfl)<|Nl<|Wo rfl ‹_›<|Wu<|Wq<|Wq<|qW 66 70 rfl<|qM rfl<|qM rfl<|qY rfl (hct) fok43 rfl<|qO rfl<|Nl<|Wt rfl rfl<|Wq<|qW 74 75 rfl<|qA rfl<|Nl<|Wz ⟨.inl rfl,_,mt,(Rc (Rt0 rfl) Rv),aM,?_⟩
  exact ⟨rfl,rfl⟩
set_option maxHeartbeats 1000000 in
theorem permitted_ok (ss:List SetR) (os:List ObjR) (asn og:Int) (nm:ByteArray) (p:Pre) (l:List Int) (cs:List AV) (n:Nat) (hss:SetsOk ss) (hos:ObjsOk os) (hp:PreOk p) (hll:l.length≤900) (hne:(!(nm.toList == (⟨#[]⟩:ByteArray).toList))=true)
 (hE:AFn Tryz.prog 16 0 [.agg (regC ss os),.base (.string nm)] mt (.tup [.isl (intsC l) l.length,.isl cs n,.base (.int .i64 0)]) mt):AFn Tryz.prog 17 0 [.agg (regC ss os),.base (.int .i64 asn),.base (.string nm),.agg (preC p),.base (.int .i64 og)] mt (.base (.int .i64 (pmtV p og (asn::l) os))) mt:=by
 refine AFn.eq Tryz.func17 rfl rfl (Nat.le_of_ble_eq_true rfl) ?_
 have hvalid:=ivalid_any ss os hss hos
 have hol:=hos.len
 have hct:=contains_ints (asn::l) og (by simp;omega)
 obtain ⟨m,⟨hm,hml⟩,hown⟩:=own_any ss os (asn::l) (by omega) (by simp;omega)
 have hpm:=permits_any m p og hp (fun o ho=>(hos.ok o (List.mem_filter.1 ((hm o).1 ho)).1).p) (by omega)
 have hz:(intsC l).length=l.length * 1:=by rw [intsC_len,Nat.mul_one]
 have hcs:[AV.base (.int .i64 asn)]++intsC l=intsC (asn::l):=rfl
 have hcl:1 + l.length=(asn::l).length:=by simp;omega
 unfold regC at hvalid hown hE ⊢
 by_cases ho:og∈asn::l
 ·have hd:decide (og∈asn::l)=true:=decide_eq_true ho
  rw [hd] at hct
  rw [prm_same hm ho] at hpm
  have hR:pmtV p og (asn::l) os=prmK cvP p og 11 7 9 os 11:=if_pos ho
  rw [hR]
  refine Wq<|qW 0 3 rfl<|qC rfl<|qC rfl<|qA rfl<|Nl<|Wq<|Wq<|qW 7 10 rfl<|qG rfl ty28 rfl (Tl rfl)<|qY rfl (hvalid) fok38 rfl<|qO rfl<|Nl<|Wo rfl rfl<|Wu<|Wq<|qW 19 22 rfl<|qM rfl<|Od rfl rfl (LO.buildSlice rfl ty22 ty3 (by decide) (by decide) (.cons rfl rfl rfl rfl (Sl rfl) .nil))<|qA rfl<|Nl<|Wq<|Wq<|qW 26 28 rfl<|qM rfl<|Od rfl rfl (LO.neq_str rfl rfl rfl)<|Nl<|Wt rfl ‹_›<|Wq<|qW 32 42 rfl<|qG rfl ty28 rfl (Tl rfl)<|qM rfl<|qY rfl (hE) fok16 rfl<|qM rfl<|qX rfl<|qX rfl<|qX rfl<|qA rfl<|qA rfl<|qA rfl<|Nl<|Wq<|Wq<|qW 46 48 rfl<|qM rfl<|qN rfl<|Nl<|Wo rfl rfl<|Wu<|qW 58 62 rfl<|qM rfl<|qM rfl<|Od rfl rfl (Lap rfl rfl (Ssi rfl rfl hz) rfl (Tl rfl) ty22 ty22 ty3 (by decide) (by omega) (by omega) (by decide))<|qA rfl<|Nl ?_
  rw [hcs,hcl]
  refine Wy (t:=11) rfl rfl (ints_tk rfl) (intsC_pure _)<|Wq<|Wq<|qW 66 70 rfl<|qM rfl<|qM rfl<|qY rfl (hct) fok43 rfl<|qO rfl<|Nl<|Wo rfl rfl<|Wu<|Wq<|Wd 79 86 (by decide) rfl mixed rfl<|qG rfl ty28 rfl (Tl rfl)<|qM rfl<|qY rfl (hown) fok44 rfl<|qG rfl ty36 rfl (Tl rfl)<|qM rfl<|qY rfl (hpm) fok14 rfl<|qA rfl<|Nl ⟨by kernel_rfl,(Wz ⟨.inl rfl,_,mt,(Rc (Rt0 rfl) Rv),aM,?_⟩)⟩
  exact ⟨rfl,rfl⟩
 ·have hd:decide (og∈asn::l)=false:=decide_eq_false ho
  rw [hd] at hct
  have hR:pmtV p og (asn::l) os=17:=if_neg ho
  rw [hR]
  refine Wq<|qW 0 3 rfl<|qC rfl<|qC rfl<|qA rfl<|Nl<|Wq<|Wq<|qW 7 10 rfl<|qG rfl ty28 rfl (Tl rfl)<|qY rfl (hvalid) fok38 rfl<|qO rfl<|Nl<|Wo rfl rfl<|Wu<|Wq<|qW 19 22 rfl<|qM rfl<|Od rfl rfl (LO.buildSlice rfl ty22 ty3 (by decide) (by decide) (.cons rfl rfl rfl rfl (Sl rfl) .nil))<|qA rfl<|Nl<|Wq<|Wq<|qW 26 28 rfl<|qM rfl<|Od rfl rfl (LO.neq_str rfl rfl rfl)<|Nl<|Wt rfl ‹_›<|Wq<|qW 32 42 rfl<|qG rfl ty28 rfl (Tl rfl)<|qM rfl<|qY rfl (hE) fok16 rfl<|qM rfl<|qX rfl<|qX rfl<|qX rfl<|qA rfl<|qA rfl<|qA rfl<|Nl<|Wq<|Wq<|qW 46 48 rfl<|qM rfl<|qN rfl<|Nl<|Wo rfl rfl<|Wu<|qW 58 62 rfl<|qM rfl<|qM rfl<|Od rfl rfl (Lap rfl rfl (Ssi rfl rfl hz) rfl (Tl rfl) ty22 ty22 ty3 (by decide) (by omega) (by omega) (by decide))<|qA rfl<|Nl ?_
  rw [hcs,hcl]
  refine Wy (t:=11) rfl rfl (ints_tk rfl) (intsC_pure _)<|Wq<|Wq<|qW 66 70 rfl<|qM rfl<|qM rfl<|qY rfl (hct) fok43 rfl<|qO rfl<|Nl<|Wt rfl rfl<|Wq<|qW 74 75 rfl<|qA rfl<|Nl<|Wz ⟨.inl rfl,_,mt,(Rc (Rt0 rfl) Rv),aM,?_⟩
  exact ⟨rfl,rfl⟩
end Go.Proofs.YtndbhhgmpjjjhaaGreatDoor
