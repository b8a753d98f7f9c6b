/-
  The members of a database in one slice, by slices.Concat. How many of each, and all ports of a database. A stable sort of ports that are in order leaves them as they are. A stable sort of ports that are in order leaves them as they are: the sort. The ports of a database as its package hands them out, and who owns a port. The two prefixes of the exchange: they stand right, and their last addresses. A right port passes its package's check. No port of a right member is wrong: slices.ContainsFunc with the package's check. The set of letters that strings.Trim makes. The letters of a name, as strings.Trim collects them. A name of right letters is trimmed to nothing. A right name is one: strings.Trim leaves nothing of it. A right name passes its package's check.
-/
import Derived.Test.YtlcndmciognneaaGreatDoorQs
import Derived.Test.YtlcndmciognneaaGreatDoorMab
import Derived.Test.YtlcndmciognneaaGreatDoorWa
namespace Go.Proofs.YtlcndmciognneaaGreatDoor
open Go.RowKit
theorem fl_le {α:Type} {L:List (List α)} (i:Nat):(L.take i).flatten.length≤L.flatten.length:=by
 have h:(L.take i).flatten.length + (L.drop i).flatten.length=L.flatten.length:=by
  rw [← List.length_append,← List.flatten_append,List.take_append_drop]
 omega
theorem fl_take {α:Type} {L:List (List α)} {i:Nat} (h:i < L.length):(L.take (i + 1)).flatten=(L.take i).flatten++L[i]:=by
 rw [List.take_succ_eq_append_getElem h,List.flatten_append,List.flatten_singleton]
def msC (L:List (List Mem)):List AV:=L.map fun l=>.isl (memsC l) l.length
theorem msC_pure (L:List (List Mem)):(msC L).all AV.pure1=true:=by
 induction L with
 | nil=>rfl
 | cons x l ih=>rw [show msC (x::l)=[.isl (memsC x) x.length]++msC l from rfl,List.all_append,ih];rfl
theorem ms_at {L:List (List Mem)} {i:Nat} (h:i < L.length):(msC L)[i * 1]?=some (.isl (memsC L[i]) L[i].length):=by
 rw [Nat.mul_one];unfold msC;rw [List.getElem?_map,List.getElem?_eq_getElem h];rfl
theorem growM_any (n:Nat) (h1:1≤n) (h2:n≤1000000):AFn Tryz.prog 203 0 [.nils,.base (.int .i64 (n:Int))] mt (.osl 0 0 0 6) (up mt 0 (some [])):=by
 refine AFn.eq Tryz.func203 rfl rfl (Nat.le_of_ble_eq_true rfl) ?_
 have g1:decide ((n:Int) < 0)=false:=decide_eq_false (by omega)
 refine Wq<|qW 0 1 rfl<|qA rfl<|Nl<|Wq<|Wq<|qW 5 7 rfl<|qM rfl<|qK rfl<|Nl<|Wo rfl rfl<|Wu<|Wq<|Wq<|qW 17 25 rfl<|qM rfl<|qM rfl<|Od rfl rfl (LO.cap_nil rfl rfl ty103)<|qM rfl<|qH rfl ty103<|Od rfl rfl (LO.sub_in rfl rfl rfl (iW _ (by omega)))<|Od rfl rfl (LO.sub_in rfl rfl rfl (iW _ (by omega)))<|qA rfl<|Nl ?_
 rw [show (n:Int) - (0 - ((0:Nat):Int))=(n:Int) from by omega]
 have g2:decide ((n:Int) > 0)=true:=decide_eq_true (by omega)
 refine Wq<|qW 29 31 rfl<|qM rfl<|qGt rfl<|Nl<|Wt rfl ‹_›<|qW 35 45 rfl<|qM rfl<|qM rfl<|Od rfl rfl (LO.cap_nil rfl rfl ty103)<|Od rfl rfl (LO.slice_nil rfl rfl rfl ty103 ty150)<|qM rfl<|Od rfl rfl (LO.append_make rfl rfl rfl ty103 ty3 ty150 (by decide) (by omega) (by omega) (by omega))<|qM rfl<|qH rfl ty103<|Od rfl rfl (LO.slice rfl rfl Bnd.no (Ba rfl rfl) (by omega) (by omega) ty103 ty150)<|qA rfl<|Nl<|Wq<|qW 49 51 rfl<|qM rfl<|qA rfl<|Nl<|W.rename [(0,40)] 1 (T':=up mt 4 (some (.osl 0 0 (0) 6))) (H':=up mt 0 (some ([]))) (by decide) ?_ ?_ ?_
 ·exact aU (lI rfl) aM
 ·exact aU (kR rfl) aM
 refine Wz ⟨.inl rfl,_,up mt 0 (some ([])),Rc (Rt0 rfl) Rv,aU rfl aM,?_⟩
 exact ⟨rfl,rfl⟩
theorem concatM_any (L:List (List Mem)) (h1:1≤L.flatten.length) (h2:L.flatten.length≤1000000) (h3:L.length≤1000):AFn Tryz.prog 196 0 [.isl (msC L) L.length] mt (.osl 0 0 L.flatten.length 6) (up mt 0 (some (memsC L.flatten))):=by
 refine AFn.eq Tryz.func196 rfl rfl (Nat.le_of_ble_eq_true rfl) ?_
 have hg:=growM_any L.flatten.length h1 h2
 refine Wq<|qW 0 1 rfl<|qA rfl<|Nl<|Wq<|qW 5 6 rfl<|qA rfl<|Nl<|Wq<|Wq<|qW 10 13 rfl<|qM rfl<|qH rfl ty231<|qM rfl<|Nl<|Wb<|W.rename [] 0 (T':=up (up (up (up (up mt 0 (some (.isl (msC L) L.length))) 3 (some (.base (.int .i64 ((L.take 0).flatten.length:Int))))) 9 (some (.isl (msC L) L.length))) 10 (some (.base (.int .i64 (L.length:Int))))) 11 (some (.base (.int .i64 (0:Int))))) (H':=mt) (by decide) ?_ ?_ ?_
 ·exact aU (lR rfl) (aU (lR rfl) (aU (lR rfl) (aU (lR rfl) (aU (lR rfl) aM))))
 ·exact aM
 refine W.loop_ind (α:=Nat) (fun x=>L.length - x) 0 (fun x=>up (up (up (up (up mt 0 (some (.isl (msC L) L.length))) 3 (some (.base (.int .i64 ((L.take x).flatten.length:Int))))) 9 (some (.isl (msC L) L.length))) 10 (some (.base (.int .i64 (L.length:Int))))) 11 (some (.base (.int .i64 (x:Int))))) (fun x=>mt) (fun x=>x≤L.length) 0 (show 0≤L.length from Nat.zero_le _) ?_
 rintro i hIA ihA
 try (dsimp only at hIA)
 try dsimp only
 have hfl:=fl_le (L:=L) i
 by_cases hc:i < L.length
 ·have g1:decide ((i:Int) < (L.length:Int))=true:=decide_eq_true (by omega)
  have hfl2:=fl_le (L:=L) (i + 1)
  have hn:=fl_take hc
  have hnl:(L.take (i + 1)).flatten.length=(L.take i).flatten.length + L[i].length:=by rw [hn,List.length_append]
  have g2:decide ((((L.take i).flatten.length:Int) + (L[i].length:Int)) < 0)=false:=decide_eq_false (by omega)
  refine Wq<|qW 17 18 rfl<|qK rfl<|Nl<|Wq<|Wt rfl ‹_›<|Wu<|Wq<|Wb<|Wq<|qW 22 25 rfl<|qJ rfl rfl ty231 ty103 (by omega)<|Od rfl rfl (Li rfl rfl (ms_at hc) ty103 rfl)<|qA rfl<|Nl<|Wq<|qW 29 34 rfl<|qM rfl<|qM rfl<|qH rfl ty103<|qZ rfl (iW _ (by omega))<|qA rfl<|Nl<|Wq<|qW 38 40 rfl<|qM rfl<|qK rfl<|Nl<|Wo rfl rfl<|Wu<|qW 50 52 rfl<|qZ rfl (iW _ (by omega))<|qM rfl<|Nl ?_
  rw [show (((L.take i).flatten.length:Int) + (L[i].length:Int))=((L.take (i + 1)).flatten.length:Int) from by rw [hnl];omega]
  refine WL.rename [] 0 (by decide) ?_ ?_ (ihA (i + 1) (show L.length - (i + 1) < L.length - i from by omega) (show (i + 1)≤L.length from by omega))
  ·exact aU (lR rfl) (aU (lR rfl) (aU (lR rfl) (aU (lR rfl) (aU (lR rfl) aM))))
  ·exact aM
 ·have g1:decide ((i:Int) < (L.length:Int))=false:=decide_eq_false (by omega)
  refine Wq<|qW 17 18 rfl<|qK rfl<|Nl<|Wq<|Wo rfl ‹_›<|Wx ?_
  obtain rfl:i=L.length:=by omega
  rw [List.take_length]
  refine Wq<|qW 56 59 rfl<|qM rfl<|Od rfl rfl (LO.callO (fr:=[]) rfl rfl (hg) fok203 (.cons rfl (.pure rfl) (.cons rfl (.pure rfl) .nil)) rfl (by decide))<|qA rfl<|Nl<|Wq<|Wq<|qW 63 66 rfl<|qM rfl<|qH rfl ty231<|qM rfl<|Nl<|Wb<|W.rename [(0,57)] 1 (T':=up (up (up (up mt 6 (some (.osl 0 0 (([]:List Mem)).length 6))) 25 (some (.isl (msC L) L.length))) 26 (some (.base (.int .i64 (L.length:Int))))) 27 (some (.base (.int .i64 (0:Int))))) (H':=up mt 0 (some (memsC (([]:List Mem))))) (by decide) ?_ ?_ ?_
  ·exact aU (lR rfl) (aU (lR rfl) (aU (lR rfl) (aU (lI rfl) aM)))
  ·exact aU (kR rfl) aM
  refine W.loop_ind (α:=Nat × List Mem) (fun x=>L.length - x.1) 1 (fun x=>up (up (up (up mt 6 (some (.osl 0 0 x.2.length 6))) 25 (some (.isl (msC L) L.length))) 26 (some (.base (.int .i64 (L.length:Int))))) 27 (some (.base (.int .i64 (x.1:Int))))) (fun x=>up mt 0 (some (memsC x.2))) (fun x=>x.1≤L.length∧x.2=(L.take x.1).flatten) (0,(([]:List Mem))) (show 0≤L.length∧(([]:List Mem))=(L.take 0).flatten from ⟨Nat.zero_le _,rfl⟩) ?_
  rintro ⟨i,acc⟩ hIB ihB
  try (dsimp only at hIB)
  try dsimp only
  obtain ⟨hi,hacc⟩:=hIB
  have hfl:=fl_le (L:=L) i
  rw [← hacc] at hfl
  by_cases hc:i < L.length
  ·have g1:decide ((i:Int) < (L.length:Int))=true:=decide_eq_true (by omega)
   have hfl2:=fl_le (L:=L) (i + 1)
   have hn:=fl_take hc
   rw [← hacc] at hn
   have hnl:(acc++L[i]).length≤L.flatten.length:=by rw [← hn];exact hfl2
   rw [List.length_append] at hnl
   refine Wq<|qW 70 71 rfl<|qK rfl<|Nl<|Wq<|Wt rfl ‹_›<|Wu<|Wq<|Wb<|Wq<|qW 75 78 rfl<|qJ rfl rfl ty231 ty103 (by omega)<|Od rfl rfl (Li rfl rfl (ms_at hc) ty103 rfl)<|qA rfl<|Nl<|qW 82 86 rfl<|qM rfl<|qM rfl<|Od rfl rfl (Lap rfl rfl (Ssi rfl rfl (memsC_len _)) rfl (mems_all rfl) ty103 ty103 ty150 (by decide) (by omega) (by omega) (by decide))<|qA rfl<|Nl<|qW 90 92 rfl<|qZ rfl (iW _ (by omega))<|qM rfl<|Nl ?_
   rw [show memsC acc++memsC L[i]=memsC (acc++L[i]) from by simp [memsC],show acc.length + L[i].length=(acc++L[i]).length from by simp]
   refine WL.rename [(0,84)] 1 (by decide) ?_ ?_ (ihB ((i + 1),(acc++L[i])) (show L.length - (i + 1) < L.length - i from by omega) (show (i + 1)≤L.length∧(acc++L[i])=(L.take (i + 1)).flatten from ⟨by omega,hn.symm⟩))
   ·exact aU (lR rfl) (aU (lR rfl) (aU (lR rfl) (aU (lI rfl) aM)))
   ·exact aU (kP rfl (memsC_pure _)) aM
  ·have g1:decide ((i:Int) < (L.length:Int))=false:=decide_eq_false (by omega)
   refine Wq<|qW 70 71 rfl<|qK rfl<|Nl<|Wq<|Wo rfl ‹_›<|Wx ?_
   obtain rfl:i=L.length:=by omega
   rw [List.take_length] at hacc
   subst hacc
   refine Wq<|qW 96 98 rfl<|qM rfl<|qA rfl<|Nl<|W.rename [(0,0)] 1 (T':=up mt 2 (some (.osl 0 0 (L.flatten.length) 6))) (H':=up mt 0 (some (memsC L.flatten))) (by decide) ?_ ?_ ?_
   ·exact aU (lI rfl) aM
   ·exact aU (kP rfl (memsC_pure _)) aM
   refine Wz ⟨.inl rfl,_,up mt 0 (some (memsC L.flatten)),Rc (Rt0 rfl) Rv,aU rfl aM,?_⟩
   exact ⟨rfl,rfl⟩
theorem allM_any (d:Db) (h0:1≤(d.servers++d.members).length) (h1:d.servers.length≤1000) (h2:d.members.length≤1000):AFn Tryz.prog 167 0 [.agg (dbC d)] mt (.isl (memsC (d.servers++d.members)) (d.servers++d.members).length) mt:=by
 refine AFn.eq Tryz.func167 rfl rfl (Nat.le_of_ble_eq_true rfl) ?_
 have e0:[d.servers,d.members].flatten=d.servers++d.members:=by simp
 have hc:=concatM_any [d.servers,d.members] (by rw [e0];exact h0) (by rw [e0,List.length_append];omega) (by simp)
 rw [e0,show msC [d.servers,d.members]=[.isl (memsC d.servers) d.servers.length,.isl (memsC d.members) d.members.length] from rfl,show [d.servers,d.members].length=2 from rfl] at hc
 have hc2:=hc.frozen (mems_all rfl) (memsC_pure _)
 refine Wq<|qW 0 2 rfl<|qC rfl<|qA rfl<|Nl<|Wq<|qW 6 13 rfl<|qF rfl ty105 rfl<|qL rfl ty103 rfl<|qF rfl ty105 rfl<|qL rfl ty103 rfl<|Od rfl rfl (LO.buildSlice rfl ty231 ty103 (by decide) (by decide) (.cons rfl rfl rfl rfl (Sl rfl) (.cons rfl rfl rfl rfl (Sl rfl) .nil)))<|Od rfl rfl (C0 (fr:=[10]) rfl rfl (hc2) fok196 (.cons rfl (.one (.osl (by decide) rfl (Tl rfl) rfl)) .nil) rfl)<|qA rfl<|Nl<|Wz ⟨.inl rfl,_,mt,Rc (Rt0 rfl) (Rv),aM,?_⟩
 exact ⟨rfl,rfl⟩
theorem mwithin_any (n l h:Int):AFn Tryz.prog 182 0 [.base (.int .i64 n),.base (.int .i64 l),.base (.int .i64 h)] mt (.base (.bool (decide (l≤n) && decide (n≤h)))) mt:=by
 refine AFn.eq Tryz.func182 rfl rfl (Nat.le_of_ble_eq_true rfl) ?_
 cases k1:decide (l≤n)
 ·
  refine Wq<|qW 0 1 rfl<|qA rfl<|Nl<|Wq<|qW 5 14 rfl<|qM rfl<|qM rfl<|qGe rfl<|qM rfl<|qD rfl ‹_› rfl<|qD rfl ‹_› rfl<|qD rfl ‹_› rfl<|qP rfl ‹_› rfl<|qA rfl<|Nl<|Wz ⟨.inl rfl,_,mt,Rc (Rt0 rfl) (Rv),aM,?_⟩
  exact ⟨rfl,rfl⟩
 ·
  refine Wq<|qW 0 1 rfl<|qA rfl<|Nl<|Wq<|qW 5 14 rfl<|qM rfl<|qM rfl<|qGe rfl<|qM rfl<|gM rfl ‹_›<|gM rfl ‹_›<|gLe rfl ‹_›<|qT rfl ‹_› rfl<|qA rfl<|Nl<|Wz ⟨.inl rfl,_,mt,Rc (Rt0 rfl) (Rv),aM,?_⟩
  exact ⟨rfl,rfl⟩
theorem mwithin_yes {n l h:Int} (h1:l≤n) (h2:n≤h):AFn Tryz.prog 182 0 [.base (.int .i64 n),.base (.int .i64 l),.base (.int .i64 h)] mt (.base (.bool true)) mt:=by
 have:=mwithin_any n l h
 rwa [decide_eq_true h1,decide_eq_true h2] at this
theorem few_any (m:Mem) (hm:MemOk m):AFn Tryz.prog 181 0 [.agg (memC m)] mt (.base (.bool true)) mt:=by
 refine AFn.eq Tryz.func181 rfl rfl (Nat.le_of_ble_eq_true rfl) ?_
 have hnp:=hm.np
 have w1:=mwithin_yes (n:=(m.ports.length:Int)) (l:=1) (h:=4) (by omega) (by omega)
 have hps:=hm.ports
 obtain ⟨asn,name,set,max4,max6,ps⟩:=m
 dsimp only at hnp w1 hps
 refine Wq<|qW 0 2 rfl<|qC rfl<|qA rfl<|Nl<|Wq<|Wq<|qW 6 10 rfl<|qF rfl ty150 rfl<|qL rfl ty148 rfl<|qH rfl ty148<|qM rfl<|Nl<|Wb<|W.rename [(0,0)] 1 (T':=up (up (up (up mt 1 (some (.own 0 0))) 6 (some (.isl (prtsC ps) ps.length))) 7 (some (.base (.int .i64 (ps.length:Int))))) 8 (some (.base (.int .i64 (0:Int))))) (H':=up mt 0 (some (memC ⟨asn,name,set,max4,max6,ps⟩))) (by decide) ?_ ?_ ?_
 ·exact aU (lR rfl) (aU (lR rfl) (aU (lR rfl) (aU (lI rfl) aM)))
 ·exact aU (kR rfl) aM
 refine W.loop_ind (α:=Nat) (fun x=>ps.length - x) 1 (fun x=>up (up (up (up mt 1 (some (.own 0 0))) 6 (some (.isl (prtsC ps) ps.length))) 7 (some (.base (.int .i64 (ps.length:Int))))) 8 (some (.base (.int .i64 (x:Int))))) (fun x=>up mt 0 (some (memC ⟨asn,name,set,max4,max6,ps⟩))) (fun x=>x≤ps.length) 0 (show 0≤ps.length from Nat.zero_le _) ?_
 rintro j hIB ihB
 try (dsimp only at hIB)
 try dsimp only
 by_cases hc2:j < ps.length
 ·have g2:decide ((j:Int) < (ps.length:Int))=true:=decide_eq_true (by omega)
  have hp:=(hps _ (List.getElem_mem hc2)).nm
  refine Wq<|qW 14 15 rfl<|qK rfl<|Nl<|Wq<|Wt rfl ‹_›<|Wu<|Wq<|Wb<|Wq<|qW 19 23 rfl<|qJ rfl rfl ty148 ty157 (by omega)<|Od rfl rfl (Lg rfl rfl ty157 rfl (prts_tk hc2))<|qB rfl ty157<|qS rfl ty157 (Sl rfl) rfl<|Nl ?_
  generalize ps[j]=p at *
  have w2:=mwithin_yes (n:=(p.macs.length:Int)) (l:=1) (h:=2) (by omega) (by omega)
  refine Wq<|qW 27 32 rfl<|qF rfl ty157 rfl<|qL rfl ty36 rfl<|qH rfl ty36<|qY rfl (w2) fok182 rfl<|qO rfl<|Nl<|Wo rfl rfl<|Wu<|qW 41 43 rfl<|qZ rfl (iW _ (by omega))<|qM rfl<|Nl<|WL.rename [(0,0)] 1 (by decide) ?_ ?_ (ihB (j + 1) (show ps.length - (j + 1) < ps.length - j from by omega) (show (j + 1)≤ps.length from by omega))
  ·exact aU (lR rfl) (aU (lR rfl) (aU (lR rfl) (aU (lI rfl) aM)))
  ·exact aU (kR rfl) aM
 ·have g2:decide ((j:Int) < (ps.length:Int))=false:=decide_eq_false (by omega)
  refine Wq<|qW 14 15 rfl<|qK rfl<|Nl<|Wq<|Wo rfl ‹_›<|Wx<|Wq<|qW 47 52 rfl<|qF rfl ty150 rfl<|qL rfl ty148 rfl<|qH rfl ty148<|qY rfl (w1) fok182 rfl<|qA rfl<|Nl<|Wz ⟨.inl rfl,_,mt,Rc (Rt0 rfl) (Rv),aM,?_⟩
  exact ⟨rfl,rfl⟩
set_option maxHeartbeats 1000000 in
theorem fits_any (d:Db) (hd:DbOk d) (h0:1≤(d.servers++d.members).length):AFn Tryz.prog 158 0 [.agg (dbC d)] mt (.base (.bool true)) mt:=by
 refine AFn.eq Tryz.func158 rfl rfl (Nat.le_of_ble_eq_true rfl) ?_
 have h4:=hd.ns
 have h32:=hd.nm
 have hmem:=hd.mem
 have hall:=allM_any d h0 (by omega) (by omega)
 obtain ⟨A,hA⟩:∃ A,A=d.servers++d.members:=⟨_,rfl⟩
 rw [← hA] at hall hmem
 have hAl:A.length≤2000:=by rw [hA,List.length_append];omega
 have g4:decide ((d.servers.length:Int)≤4)=true:=decide_eq_true (by omega)
 have g32:decide ((d.members.length:Int)≤32)=true:=decide_eq_true (by omega)
 obtain ⟨l4,l6,sv,mb⟩:=d
 unfold dbC
 dsimp only at g4 g32 ⊢
 refine Wq<|qW 0 2 rfl<|qC rfl<|qA rfl<|Nl<|Wq<|qW 6 7 rfl<|qA rfl<|Nl<|Wq<|Wq<|qW 11 15 rfl<|qG rfl ty105 rfl (Tl rfl)<|qY rfl (hall) fok167 rfl<|qH rfl ty103<|qM rfl<|Nl<|Wb<|W.rename [(0,0)] 1 (T':=up (up (up (up (up mt 1 (some (.own 0 0))) 3 (some (.base (.func (.func 181) #[] #[])))) 7 (some (.isl (memsC A) A.length))) 8 (some (.base (.int .i64 (A.length:Int))))) 9 (some (.base (.int .i64 (0:Int))))) (H':=up mt 0 (some (preC l4++preC l6++[.isl (memsC sv) sv.length,.isl (memsC mb) mb.length]))) (by decide) ?_ ?_ ?_
 ·exact aU (lR rfl) (aU (lR rfl) (aU (lR rfl) (aU (lR rfl) (aU (lI rfl) aM))))
 ·exact aU (kR rfl) aM
 refine W.loop_ind (α:=Nat) (fun x=>A.length - x) 1 (fun x=>up (up (up (up (up mt 1 (some (.own 0 0))) 3 (some (.base (.func (.func 181) #[] #[])))) 7 (some (.isl (memsC A) A.length))) 8 (some (.base (.int .i64 (A.length:Int))))) 9 (some (.base (.int .i64 (x:Int))))) (fun x=>up mt 0 (some (preC l4++preC l6++[.isl (memsC sv) sv.length,.isl (memsC mb) mb.length]))) (fun x=>x≤A.length) 0 (show 0≤A.length from Nat.zero_le _) ?_
 rintro i hIA ihA
 try (dsimp only at hIA)
 try dsimp only
 by_cases hc:i < A.length
 ·have g1:decide ((i:Int) < (A.length:Int))=true:=decide_eq_true (by omega)
  have hf:=few_any _ (hmem _ (List.getElem_mem hc))
  refine Wq<|qW 19 20 rfl<|qK rfl<|Nl<|Wq<|Wt rfl ‹_›<|Wu<|Wq<|Wb<|Wq<|qW 24 28 rfl<|qJ rfl rfl ty103 ty150 (by omega)<|Od rfl rfl (Lg rfl rfl ty150 rfl (mems_tk hc))<|qB rfl ty150<|qS rfl ty150 (Sl rfl) rfl<|Nl ?_
  generalize A[i]=m at *
  obtain ⟨asn,name,set,max4,max6,ps⟩:=m
  refine Wq<|qW 32 36 rfl<|qM rfl<|qG rfl ty150 rfl (Tl rfl)<|Od rfl rfl (LO.callF (fr:=[]) rfl rfl hf fok181 (.cons rfl (.pure rfl) .nil) rfl)<|qO rfl<|Nl<|Wo rfl rfl<|Wu<|qW 45 47 rfl<|qZ rfl (iW _ (by omega))<|qM rfl<|Nl<|WL.rename [(0,0)] 1 (by decide) ?_ ?_ (ihA (i + 1) (show A.length - (i + 1) < A.length - i from by omega) (show (i + 1)≤A.length from by omega))
  ·exact aU (lR rfl) (aU (lR rfl) (aU (lR rfl) (aU (lR rfl) (aU (lI rfl) aM))))
  ·exact aU (kR rfl) aM
 ·have g1:decide ((i:Int) < (A.length:Int))=false:=decide_eq_false (by omega)
  refine Wq<|qW 19 20 rfl<|qK rfl<|Nl<|Wq<|Wo rfl ‹_›<|Wx<|Wq<|qW 51 62 rfl<|qF rfl ty105 rfl<|qL rfl ty103 rfl<|qH rfl ty103<|qLe rfl<|qM rfl<|gF rfl ‹_› ty105 rfl<|gL rfl ‹_› ty103 rfl<|gH rfl ‹_› ty103<|gLe rfl ‹_›<|qT rfl ‹_› rfl<|qA rfl<|Nl<|Wz ⟨.inl rfl,_,mt,Rc (Rt0 rfl) (Rv),aM,?_⟩
  exact ⟨by rw [g32];rfl,rfl⟩
theorem fm_take {A:List Mem} {i:Nat} (h:i < A.length):(A.take (i + 1)).flatMap (·.ports)=(A.take i).flatMap (·.ports)++A[i].ports:=by
 rw [List.take_add_one,List.flatMap_append]
 simp [h]
theorem fm_le {A:List Mem} (i:Nat):((A.take i).flatMap (·.ports)).length≤(A.flatMap (·.ports)).length:=by
 have h:((A.take i).flatMap (·.ports)).length + ((A.drop i).flatMap (·.ports)).length=(A.flatMap (·.ports)).length:=by
  rw [← List.length_append,← List.flatMap_append,List.take_append_drop]
 omega
set_option maxHeartbeats 1000000 in
theorem portsM_any (d:Db) (h0:1≤(d.servers++d.members).length) (h1:d.servers.length≤1000) (h2:d.members.length≤1000) (hs:(allP d).length≤1000):AFn Tryz.prog 163 0 [.agg (dbC d)] mt (.isl (prtsC (allP d)) (allP d).length) mt:=by
 refine AFn.eq Tryz.func163 rfl rfl (Nat.le_of_ble_eq_true rfl) ?_
 have hall:=allM_any d h0 (by omega) (by omega)
 have hAl:(d.servers++d.members).length≤2000:=by rw [List.length_append];omega
 unfold allP at hs ⊢
 obtain ⟨A,hA⟩:∃ A,A=d.servers++d.members:=⟨_,rfl⟩
 rw [← hA] at hall hs hAl ⊢
 clear hA
 refine Wq<|qW 0 2 rfl<|qC rfl<|qA rfl<|Nl<|Wq<|qW 6 7 rfl<|qA rfl<|Nl<|Wq<|Wq<|qW 11 15 rfl<|qG rfl ty105 rfl (Tl rfl)<|qY rfl (hall) fok167 rfl<|qH rfl ty103<|qM rfl<|Nl<|W.name 20 (20 + 1) (t:=3) (sz:=10) rfl (by decide) (by decide)<|Wb<|W.rename [(0,20)] 1 (T':=up (up (up (up mt 3 (some (.osl 0 0 ((A.take 0).flatMap (·.ports)).length 10))) 7 (some (.isl (memsC A) A.length))) 8 (some (.base (.int .i64 (A.length:Int))))) 9 (some (.base (.int .i64 (0:Int))))) (H':=up mt 0 (some (prtsC ((A.take 0).flatMap (·.ports))))) (by decide) ?_ ?_ ?_
 ·exact aU (lR rfl) (aU (lR rfl) (aU (lR rfl) (aU (lI rfl) aM)))
 ·exact aU (kR rfl) aM
 refine W.loop_ind (α:=Nat) (fun x=>A.length - x) 1 (fun x=>up (up (up (up mt 3 (some (.osl 0 0 ((A.take x).flatMap (·.ports)).length 10))) 7 (some (.isl (memsC A) A.length))) 8 (some (.base (.int .i64 (A.length:Int))))) 9 (some (.base (.int .i64 (x:Int))))) (fun x=>up mt 0 (some (prtsC ((A.take x).flatMap (·.ports))))) (fun x=>x≤A.length) 0 (show 0≤A.length from Nat.zero_le _) ?_
 rintro i hIA ihA
 try (dsimp only at hIA)
 try dsimp only
 by_cases hc:i < A.length
 ·have g1:decide ((i:Int) < (A.length:Int))=true:=decide_eq_true (by omega)
  have hfl:=fm_take hc
  have hle:=fm_le (A:=A) (i + 1)
  rw [hfl,List.length_append] at hle
  refine Wq<|qW 19 20 rfl<|qK rfl<|Nl<|Wq<|Wt rfl ‹_›<|Wu<|Wq<|Wb<|Wq<|qW 24 28 rfl<|qJ rfl rfl ty103 ty150 (by omega)<|Od rfl rfl (Lg rfl rfl ty150 rfl (mems_tk hc))<|qB rfl ty150<|qS rfl ty150 (Sl rfl) rfl<|Nl ?_
  rw [show memC A[i]=[.base (.int .i64 A[i].asn),.base (.string A[i].name),.base (.string A[i].set),.base (.int .i64 A[i].max4),.base (.int .i64 A[i].max6),.isl (prtsC A[i].ports) A[i].ports.length] from rfl]
  refine qW 32 37 rfl<|qM rfl<|qF rfl ty150 rfl<|qL rfl ty148 rfl<|Od rfl rfl (Lap rfl rfl (Ssi rfl rfl (prtsC_len _)) rfl (prts_all rfl) ty148 ty148 ty157 (by decide) (by omega) (by omega) (by decide))<|qA rfl<|Nl<|qW 41 43 rfl<|qZ rfl (iW _ (by omega))<|qM rfl<|Nl ?_
  rw [show prtsC ((A.take i).flatMap (·.ports))++prtsC A[i].ports=prtsC ((A.take (i + 1)).flatMap (·.ports)) from by rw [hfl];simp [prtsC],show ((A.take i).flatMap (·.ports)).length + A[i].ports.length=((A.take (i + 1)).flatMap (·.ports)).length from by rw [hfl,List.length_append]]
  refine WL.rename [(0,35)] 1 (by decide) ?_ ?_ (ihA (i + 1) (show A.length - (i + 1) < A.length - i from by omega) (show (i + 1)≤A.length from by omega))
  ·exact aU (lR rfl) (aU (lR rfl) (aU (lR rfl) (aU (lI rfl) aM)))
  ·exact aU (kP rfl (prtsC_pure _)) aM
 ·have g1:decide ((i:Int) < (A.length:Int))=false:=decide_eq_false (by omega)
  refine Wq<|qW 19 20 rfl<|qK rfl<|Nl<|Wq<|Wo rfl ‹_›<|Wx ?_
  obtain rfl:i=A.length:=by omega
  rw [List.take_length]
  refine Wq<|qW 47 49 rfl<|qM rfl<|qA rfl<|Nl<|Wy (t:=2) rfl rfl (prts_all rfl) (prtsC_pure _)<|Wz ⟨.inl rfl,_,mt,Rc (Rt0 rfl) (Rv),aM,?_⟩
  exact ⟨rfl,rfl⟩
theorem isNaN_any (x:Int):AFn Tryz.prog 195 0 [.base (.int .i64 x)] mt (.base (.bool false)) mt:=by
 refine AFn.eq Tryz.func195 rfl rfl (Nat.le_of_ble_eq_true rfl) ?_
 have e:(x != x)=false:=by simp
 refine Wq<|qW 0 1 rfl<|qA rfl<|Nl<|Wq<|qW 5 9 rfl<|qM rfl<|qM rfl<|qN rfl<|qA rfl<|Nl<|Wz ⟨.inl rfl,_,mt,Rc (Rt0 rfl) (Rv),aM,?_⟩
 exact ⟨by rw [e];rfl,rfl⟩
def cmpV (x y:Int):Int:=if x < y then -1 else if y < x then 1 else 0
theorem cmpI_any (x y:Int):AFn Tryz.prog 166 0 [.base (.int .i64 x),.base (.int .i64 y)] mt (.base (.int .i64 (cmpV x y))) mt:=by
 refine AFn.eq Tryz.func166 rfl rfl (Nat.le_of_ble_eq_true rfl) ?_
 have n1:=isNaN_any x
 have n2:=isNaN_any y
 unfold cmpV
 refine Wq<|qW 0 1 rfl<|qA rfl<|Nl<|Wq<|qW 5 8 rfl<|qM rfl<|qY rfl (n1) fok195 rfl<|qA rfl<|Nl<|Wq<|qW 12 15 rfl<|qM rfl<|qY rfl (n2) fok195 rfl<|qA rfl<|Nl<|Wq<|Wq<|qW 19 20 rfl<|qM rfl<|Nl<|Wo rfl rfl<|Wu<|Wq<|Wq<|qW 39 40 rfl<|qM rfl<|Nl<|Wo rfl rfl<|Wu ?_
 by_cases h1:x < y
 ·have g1:decide (x < y)=true:=decide_eq_true h1
  refine Wq<|Wq<|qW 49 52 rfl<|qM rfl<|qM rfl<|qK rfl<|Nl<|Wt rfl ‹_›<|Wq<|qW 56 57 rfl<|qA rfl<|Nl<|Wz ⟨.inl rfl,_,mt,Rc (Rt0 rfl) (Rv),aM,?_⟩
  exact ⟨by rw [if_pos h1];rfl,rfl⟩
 ·have g1:decide (x < y)=false:=decide_eq_false h1
  refine Wq<|Wq<|qW 49 52 rfl<|qM rfl<|qM rfl<|qK rfl<|Nl<|Wo rfl ‹_›<|Wu ?_
  by_cases h2:y < x
  ·have g2:decide (y < x)=true:=decide_eq_true h2
   refine Wq<|Wq<|qW 61 64 rfl<|qM rfl<|qM rfl<|qGt rfl<|Nl<|Wt rfl ‹_›<|Wq<|qW 68 69 rfl<|qA rfl<|Nl<|Wz ⟨.inl rfl,_,mt,Rc (Rt0 rfl) (Rv),aM,?_⟩
   exact ⟨by rw [if_neg h1,if_pos h2];rfl,rfl⟩
  ·have g2:decide (y < x)=false:=decide_eq_false h2
   refine Wq<|Wq<|qW 61 64 rfl<|qM rfl<|qM rfl<|qGt rfl<|Nl<|Wo rfl ‹_›<|Wu<|Wq<|qW 73 74 rfl<|qA rfl<|Nl<|Wz ⟨.inl rfl,_,mt,Rc (Rt0 rfl) (Rv),aM,?_⟩
   exact ⟨by rw [if_neg h1,if_neg h2];rfl,rfl⟩
theorem cmpP_any (p q:Prt):AFn Tryz.prog 165 0 [.agg (prtC p),.agg (prtC q)] mt (.base (.int .i64 (cmpV p.id q.id))) mt:=by
 refine AFn.eq Tryz.func165 rfl rfl (Nat.le_of_ble_eq_true rfl) ?_
 have h:=cmpI_any p.id q.id
 obtain ⟨a1,a2,a3,a4,⟨b1,b2,b3⟩,⟨c1,c2,c3⟩⟩:=p
 obtain ⟨x1,x2,x3,x4,⟨y1,y2,y3⟩,⟨z1,z2,z3⟩⟩:=q
 dsimp only at h ⊢
 refine Wq<|qW 0 3 rfl<|qC rfl<|qC rfl<|qA rfl<|Nl<|Wq<|qW 7 13 rfl<|qF rfl ty157 rfl<|qL rfl ty3 rfl<|qF rfl ty157 rfl<|qL rfl ty3 rfl<|qY rfl (h) fok166 rfl<|qA rfl<|Nl<|Wz ⟨.inl rfl,_,mt,Rc (Rt0 rfl) (Rv),aM,?_⟩
 exact ⟨rfl,rfl⟩
theorem prts_tk0 {l:List Prt} {i:Nat} (h:i < l.length):Tk (prtsC l) (0 + i * 10) 10 (prtC l[i]):=by
 rw [Nat.zero_add]
 exact prts_tk h
def InOrder (ps:List Prt):Prop:=∀ (i:Nat) (h:i + 1 < ps.length),ps[i].id≤ps[i + 1].id
set_option maxHeartbeats 1000000 in
theorem insert_any (ps:List Prt) (h1:1≤ps.length) (h2:ps.length≤1000) (ho:InOrder ps):AFn Tryz.prog 201 0 [.isl (prtsC ps) ps.length,.base (.int .i64 0),.base (.int .i64 (ps.length:Int)),.base (.func (.func 165) #[] #[])] mt (.tup []) mt:=by
 refine AFn.eq Tryz.func201 rfl rfl (Nat.le_of_ble_eq_true rfl)<|Wq<|qW 0 3 rfl<|qM rfl<|qZ rfl (iW _ (by omega))<|qA rfl<|Nl ?_
 rw [show (0:Int) + 1=((0 + 1:Nat):Int) from rfl]
 refine Wb<|W.rename [] 0 (T':=up (up (up (up (up mt 0 (some (.isl (prtsC ps) ps.length))) 1 (some (.base (.int .i64 0)))) 2 (some (.base (.int .i64 (ps.length:Int))))) 3 (some (.base (.func (.func 165) #[] #[])))) 8 (some (.base (.int .i64 ((0 + 1:Nat):Int))))) (H':=mt) (by decide) ?_ ?_ ?_
 ·exact aU (lR rfl) (aU (lR rfl) (aU (lR rfl) (aU (lR rfl) (aU (lR rfl) aM))))
 ·exact aM
 refine W.loop_ind (α:=Nat) (fun x=>ps.length - x) 0 (fun x=>up (up (up (up (up mt 0 (some (.isl (prtsC ps) ps.length))) 1 (some (.base (.int .i64 0)))) 2 (some (.base (.int .i64 (ps.length:Int))))) 3 (some (.base (.func (.func 165) #[] #[])))) 8 (some (.base (.int .i64 ((x + 1:Nat):Int))))) (fun x=>mt) (fun x=>x + 1≤ps.length) 0 (show 0 + 1≤ps.length from by omega) ?_
 rintro k hIA ihA
 try (dsimp only at hIA)
 try dsimp only
 by_cases hc:k + 1 < ps.length
 ·have g1:decide (((k + 1:Nat):Int) < (ps.length:Int))=true:=decide_eq_true (by omega)
  have g2:decide (((k + 1:Nat):Int) > 0)=true:=decide_eq_true (by omega)
  have hcm:=cmpP_any ps[k + 1] ps[k]
  have hle:=ho k hc
  have g3:decide (cmpV ps[k + 1].id ps[k].id < 0)=false:=decide_eq_false (by unfold cmpV;split;omega;split<;>omega)
  refine Wq<|Wq<|qW 7 10 rfl<|qM rfl<|qM rfl<|qK rfl<|Nl<|Wt rfl ‹_›<|Wu<|Wq<|Wb<|Wq<|qW 14 16 rfl<|qM rfl<|qA rfl<|Nl<|Wb<|W.rename [] 0 (T':=up (up (up (up (up (up mt 0 (some (.isl (prtsC ps) ps.length))) 1 (some (.base (.int .i64 0)))) 2 (some (.base (.int .i64 (ps.length:Int))))) 3 (some (.base (.func (.func 165) #[] #[])))) 8 (some (.base (.int .i64 ((k + 1:Nat):Int))))) 9 (some (.base (.int .i64 ((k + 1:Nat):Int))))) (H':=mt) (by decide) ?_ ?_ ?_
  ·exact aU (lR rfl) (aU (lR rfl) (aU (lR rfl) (aU (lR rfl) (aU (lR rfl) (aU (lR rfl) aM)))))
  ·exact aM
  refine W.loop_ind (α:=Nat) (fun x=>0) 0 (fun x=>up (up (up (up (up (up mt 0 (some (.isl (prtsC ps) ps.length))) 1 (some (.base (.int .i64 0)))) 2 (some (.base (.int .i64 (ps.length:Int))))) 3 (some (.base (.func (.func 165) #[] #[])))) 8 (some (.base (.int .i64 ((k + 1:Nat):Int))))) 9 (some (.base (.int .i64 ((x + 1:Nat):Int))))) (fun x=>mt) (fun x=>x=k) k (show k=k from rfl) ?_
  rintro j hIB ihB
  try (dsimp only at hIB)
  try dsimp only
  obtain rfl:k=j:=hIB.symm
  refine Wq<|Wq<|Wd 20 37 (by decide) rfl mixed rfl<|qM rfl<|qM rfl<|qGt rfl<|qM rfl<|gM rfl ‹_›<|gM rfl ‹_›<|gM rfl ‹_›<|qU rfl ‹_› rfl (Ii rfl rfl rfl rfl rfl ty148 ty157 (by omega))<|qU rfl ‹_› rfl (Lg rfl rfl ty157 rfl (prts_tk hc))<|gM rfl ‹_›<|gM rfl ‹_›<|qU rfl ‹_› rfl (LO.sub_in rfl rfl rfl (iW _ (by omega))) ?_
  rw [show ((k + 1:Nat):Int) - 1=(k:Int) from by omega]
  refine qU rfl ‹_› rfl (Ii rfl rfl rfl rfl rfl ty148 ty157 (by omega))<|qU rfl ‹_› rfl (Lg rfl rfl ty157 rfl (prts_tk (show k < ps.length from by omega)))<|qU rfl ‹_› rfl (LO.callF (fr:=[]) rfl rfl hcm fok165 (.cons rfl (.pure rfl) (.cons rfl (.pure rfl) .nil)) rfl)<|gK rfl ‹_›<|qT rfl ‹_› rfl<|Nl ⟨by kernel_rfl,(Wo rfl ‹_›<|Wx<|qW 70 73 rfl<|qM rfl<|qZ rfl (iW _ (by omega))<|qA rfl<|Nl ?_)⟩
  rw [show ((k + 1:Nat):Int) + 1=((k + 1 + 1:Nat):Int) from by omega]
  refine WL.rename [] 0 (by decide) ?_ ?_ (ihA (k + 1) (show ps.length - (k + 1) < ps.length - k from by omega) (show (k + 1) + 1≤ps.length from by omega))
  ·exact aU (lR rfl) (aU (lR rfl) (aU (lR rfl) (aU (lR rfl) (aU (lR rfl) aM))))
  ·exact aM
 ·have g1:decide (((k + 1:Nat):Int) < (ps.length:Int))=false:=decide_eq_false (by omega)
  refine Wq<|Wq<|qW 7 10 rfl<|qM rfl<|qM rfl<|qK rfl<|Nl<|Wo rfl ‹_›<|Wx ?_
  exact ⟨.inr rfl,_,mt,RVs.nil,all_mt,rfl,rfl⟩
set_option maxHeartbeats 1000000 in
theorem stablePs_any (ps:List Prt) (h1:1≤ps.length) (h2:ps.length < 20) (ho:InOrder ps):AFn Tryz.prog 194 0 [.isl (prtsC ps) ps.length,.base (.int .i64 (ps.length:Int)),.base (.func (.func 165) #[] #[])] mt (.tup []) mt:=by
 refine AFn.eq Tryz.func194 rfl rfl (Nat.le_of_ble_eq_true rfl) ?_
 have hins:=insert_any ps h1 (by omega) ho
 have g1:decide ((20:Int)≤(ps.length:Int))=false:=decide_eq_false (by omega)
 have g2:decide ((20:Int) < (ps.length:Int))=false:=decide_eq_false (by omega)
 refine Wq<|qW 0 1 rfl<|qA rfl<|Nl<|Wq<|qW 5 8 rfl<|qM rfl<|qA rfl<|qA rfl<|Nl<|Wq<|Wb<|W.rename [] 0 (T':=up (up (up (up (up (up mt 0 (some (.isl (prtsC ps) ps.length))) 1 (some (.base (.int .i64 (ps.length:Int))))) 2 (some (.base (.func (.func 165) #[] #[])))) 6 (some (.base (.int .i64 20)))) 7 (some (.base (.int .i64 0)))) 8 (some (.base (.int .i64 20)))) (H':=mt) (by decide) ?_ ?_ ?_
 ·exact aU (lR rfl) (aU (lR rfl) (aU (lR rfl) (aU (lR rfl) (aU (lR rfl) (aU (lR rfl) aM)))))
 ·exact aM
 refine W.loop_ind (α:=Nat) (fun x=>x) 0 (fun x=>up (up (up (up (up (up mt 0 (some (.isl (prtsC ps) ps.length))) 1 (some (.base (.int .i64 (ps.length:Int))))) 2 (some (.base (.func (.func 165) #[] #[])))) 6 (some (.base (.int .i64 20)))) 7 (some (.base (.int .i64 0)))) 8 (some (.base (.int .i64 20)))) (fun x=>mt) (fun x=>x=0) 0 (show 0=0 from rfl) ?_
 rintro k hIA ihA
 try (dsimp only at hIA)
 try dsimp only
 refine Wq<|Wq<|qW 12 15 rfl<|qM rfl<|qM rfl<|qLe rfl<|Nl<|Wo rfl ‹_›<|Wx<|Wq<|qW 42 47 rfl<|qM rfl<|qM rfl<|qM rfl<|qM rfl<|qY rfl hins fok201 rfl<|Nl<|Wb<|W.rename [] 0 (T':=up (up mt 1 (some (.base (.int .i64 (ps.length:Int))))) 6 (some (.base (.int .i64 20)))) (H':=mt) (by decide) ?_ ?_ ?_
 ·exact aU (lR rfl) (aU (lR rfl) aM)
 ·exact aM
 refine W.loop_ind (α:=Nat) (fun x=>x) 0 (fun x=>up (up mt 1 (some (.base (.int .i64 (ps.length:Int))))) 6 (some (.base (.int .i64 20)))) (fun x=>mt) (fun x=>x=0) 0 (show 0=0 from rfl) ?_
 rintro j hIB ihB
 try (dsimp only at hIB)
 try dsimp only
 refine Wq<|Wq<|qW 51 54 rfl<|qM rfl<|qM rfl<|qK rfl<|Nl<|Wo rfl ‹_›<|Wx ?_
 exact ⟨.inr rfl,_,mt,RVs.nil,all_mt,rfl,rfl⟩
theorem sortPs_any (ps:List Prt) (h1:1≤ps.length) (h2:ps.length < 20) (ho:InOrder ps):AFn Tryz.prog 164 0 [.isl (prtsC ps) ps.length,.base (.func (.func 165) #[] #[])] mt (.tup []) mt:=by
 refine AFn.eq Tryz.func164 rfl rfl (Nat.le_of_ble_eq_true rfl) ?_
 have hst:=stablePs_any ps h1 h2 ho
 refine qW 0 5 rfl<|qM rfl<|qM rfl<|qH rfl ty148<|qM rfl<|qY rfl hst fok194 rfl<|Nl ?_
 exact ⟨.inr rfl,_,mt,RVs.nil,all_mt,rfl,rfl⟩
theorem cloneP_any (b:List Prt) (h:0 < b.length) (hl:b.length≤1000):AFn Tryz.prog 193 0 [.isl (prtsC b) b.length] mt (.osl 0 0 b.length 10) (up mt 0 (some (prtsC b))):=by
 refine AFn.eq Tryz.func193 rfl rfl (Nat.le_of_ble_eq_true rfl) ?_
 have hz:=prtsC_len b
 refine Wq<|qW 0 1 rfl<|qA rfl<|Nl<|Wq<|Wq<|qW 5 7 rfl<|qM rfl<|Od rfl rfl (LO.eqNilI rfl rfl rfl h rfl ty148)<|Nl<|Wo rfl rfl<|Wu<|Wq<|qW 16 20 rfl<|Od rfl rfl (LO.buildSlice rfl ty148 ty157 (by decide) (by decide) .nil)<|qM rfl<|Od rfl rfl (Lap rfl rfl (Ssi rfl rfl hz) rfl (Tl rfl) ty148 ty148 ty157 (by decide) (by omega) (by omega) (by decide))<|qA rfl<|Nl ?_
 rw [List.nil_append,show 0 + b.length=b.length from Nat.zero_add _]
 refine W.rename [(0,18)] 1 (T':=up mt 2 (some (.osl 0 0 (b.length) 10))) (H':=up mt 0 (some (prtsC b))) (by decide) ?_ ?_ ?_
 ·exact aU (lI rfl) aM
 ·exact aU (kP rfl (prtsC_pure _)) aM
 refine Wz ⟨.inl rfl,_,up mt 0 (some (prtsC b)),Rc (Rt0 rfl) Rv,aU rfl aM,?_⟩
 exact ⟨rfl,rfl⟩
theorem sp_same {cs:List AV} {k:Nat} {a:AV} (h:cs[k]?=some a):Sp cs k [a] cs:=by
 have hl:=(List.getElem?_eq_some_iff.1 h).1
 refine ⟨by simp;omega,rfl,fun j c hj=>?_⟩
 by_cases e:j=k
 ·subst e
  rw [h] at hj
  exact .inl ⟨Nat.le_refl _,by simpa using hj⟩
 ·exact .inr ⟨by simp;omega,hj⟩
set_option maxHeartbeats 1000000 in
theorem mowned_any (m:Mem) (h1:1≤m.ports.length) (h2:m.ports.length≤1000) (hp:∀ p,p∈m.ports→(∀ x,x∈p.macs→x.length=6)∧1≤p.macs.length∧p.macs.length≤2):AFn Tryz.prog 162 0 [.agg (memC m)] mt (.agg (memC m)) mt:=by
 refine AFn.eq Tryz.func162 rfl rfl (Nat.le_of_ble_eq_true rfl) ?_
 have hcl:=cloneP_any m.ports (by omega) h2
 obtain ⟨asn,name,set,max4,max6,ps⟩:=m
 dsimp only at h1 h2 hp hcl
 refine Wq<|qW 0 2 rfl<|qC rfl<|qB rfl ty150<|Nl<|Wq<|qW 6 11 rfl<|qF rfl ty150 rfl<|qL rfl ty148 rfl<|Od rfl rfl (LO.callO (fr:=[]) rfl rfl (hcl) fok193 (.cons rfl (.pure rfl) .nil) (prtsC_pure _) (by decide))<|qF rfl ty150 rfl<|qS rfl ty148 (Sl rfl) rfl<|Nl<|Wq<|Wq<|qW 15 19 rfl<|qF rfl ty150 rfl<|qL rfl ty148 rfl<|Od rfl rfl (LO.len rfl rfl ty148)<|qM rfl<|Nl<|Wb<|W.rename [(0,0),(1,1),(2,8)] 3 (T':=up (up (up (up (up mt 1 (some (.own 0 0))) 2 (some (.own 1 0))) 10 (some (.osl 2 0 ps.length 10))) 11 (some (.base (.int .i64 (ps.length:Int))))) 12 (some (.base (.int .i64 (0:Int))))) (H':=up (up (up mt 0 (some ([.base (.int .i64 asn),.base (.string name),.base (.string set),.base (.int .i64 max4),.base (.int .i64 max6),.osl 2 0 ps.length 10]))) 1 (some ([.base (.int .i64 0),.base (.string emptyS),.base (.string emptyS),.base (.int .i64 0),.base (.int .i64 0),.nils]))) 2 (some (prtsC ps))) (by decide) ?_ ?_ ?_
 ·exact aU (lR rfl) (aU (lR rfl) (aU (lI rfl) (aU (lI rfl) (aU (lI rfl) aM))))
 ·exact aU (kP rfl (prtsC_pure _)) (aU (kR rfl) (aU (kI rfl) aM))
 refine W.loop_ind (α:=Nat) (fun x=>ps.length - x) 3 (fun x=>up (up (up (up (up mt 1 (some (.own 0 0))) 2 (some (.own 1 0))) 10 (some (.osl 2 0 ps.length 10))) 11 (some (.base (.int .i64 (ps.length:Int))))) 12 (some (.base (.int .i64 (x:Int))))) (fun x=>up (up (up mt 0 (some ([.base (.int .i64 asn),.base (.string name),.base (.string set),.base (.int .i64 max4),.base (.int .i64 max6),.osl 2 0 ps.length 10]))) 1 (some ([.base (.int .i64 0),.base (.string emptyS),.base (.string emptyS),.base (.int .i64 0),.base (.int .i64 0),.nils]))) 2 (some (prtsC ps))) (fun x=>x≤ps.length) 0 (show 0≤ps.length from Nat.zero_le _) ?_
 rintro i hIA ihA
 try (dsimp only at hIA)
 try dsimp only
 by_cases hc:i < ps.length
 ·have g1:decide ((i:Int) < (ps.length:Int))=true:=decide_eq_true (by omega)
  obtain ⟨hm6,hm1,hm2⟩:=hp _ (List.getElem_mem hc)
  have hcm:=cloneM_any ps[i].macs hm6 (by omega) (by omega)
  have hsp:Sp (prtsC ps) (0 + i * 10 + 3) [.isl (macsC ps[i].macs) ps[i].macs.length] (prtsC ps):=sp_same ((prts_tk0 hc).2 3 _ rfl)
  refine Wq<|qW 23 24 rfl<|qK rfl<|Nl<|Wq<|Wt rfl ‹_›<|Wu<|Wq<|Wb<|Wq<|qW 28 34 rfl<|qM rfl<|Od rfl rfl (Ia rfl rfl rfl rfl ty148 ty157 (by omega))<|qG rfl ty157 rfl (prts_tk0 hc)<|qB rfl ty157<|qA rfl<|qS rfl ty157 (Sl rfl) rfl<|Nl<|Wd 38 47 (by decide) rfl mixed rfl<|qF rfl ty150 rfl<|qL rfl ty148 rfl<|qM rfl<|qF rfl ty157 rfl<|qL rfl ty36 rfl<|qY rfl (hcm) fok138 rfl<|Od rfl rfl (Ia rfl rfl rfl rfl ty148 ty157 (by omega))<|qF rfl ty157 rfl<|qS rfl ty36 hsp rfl<|Nl ⟨by kernel_rfl,(qW 51 53 rfl<|qZ rfl (iW _ (by omega))<|qM rfl<|Nl<|WL.rename [(0,0),(1,1),(2,2)] 3 (by decide) ?_ ?_ (ihA (i + 1) (show ps.length - (i + 1) < ps.length - i from by omega) (show (i + 1)≤ps.length from by omega)))⟩
  ·exact aU (lR rfl) (aU (lR rfl) (aU (lI rfl) (aU (lI rfl) (aU (lI rfl) aM))))
  ·exact aU (kP rfl (prtsC_pure _)) (aU (kR rfl) (aU (kI rfl) aM))
 ·have g1:decide ((i:Int) < (ps.length:Int))=false:=decide_eq_false (by omega)
  refine Wq<|qW 23 24 rfl<|qK rfl<|Nl<|Wq<|Wo rfl ‹_›<|Wx<|Wv (q:=0) (j:=5) (r:=2) rfl rfl (by decide) rfl (prts_all rfl) (prtsC_pure _) (Sl rfl)<|Wq<|qW 57 59 rfl<|qG rfl ty150 rfl (Tl rfl)<|qS rfl ty150 (Sl rfl) rfl<|Nl<|Wz ⟨.inl rfl,_,mt,(Rc (Ra0 rfl rfl ty150 rfl (Tl rfl)) Rv),aM,?_⟩
  exact ⟨rfl,rfl⟩
theorem portsO_any (d:Db) (h0:1≤(d.servers++d.members).length) (h1:d.servers.length≤1000) (h2:d.members.length≤1000) (hs:1≤(allP d).length∧(allP d).length < 20) (hp:∀ p,p∈allP d→(∀ x,x∈p.macs→x.length=6)∧1≤p.macs.length∧p.macs.length≤2) (ho:InOrder (allP d)):AFn Tryz.prog 120 0 [.agg (dbC d)] mt (.isl (prtsC (allP d)) (allP d).length) mt:=by
 refine AFn.eq Tryz.func120 rfl rfl (Nat.le_of_ble_eq_true rfl) ?_
 have hps:=portsM_any d h0 h1 h2 (by omega)
 have hso:=sortPs_any (allP d) hs.1 hs.2 ho
 have how:=mowned_any ⟨0,emptyS,emptyS,0,0,allP d⟩ hs.1 (by dsimp only;omega) hp
 refine Wq<|qW 0 2 rfl<|qC rfl<|qA rfl<|Nl<|Wq<|qW 6 12 rfl<|qG rfl ty105 rfl (Tl rfl)<|qY rfl (hps) fok163 rfl<|Od rfl rfl (Bs rfl ty150 (.cons rfl rfl rfl rfl (Sl rfl) .nil))<|qY rfl (how) fok162 rfl<|Od rfl rfl (Fd0 rfl rfl rfl ty150 rfl ty148 rfl)<|qA rfl<|Nl<|Wq<|qW 16 18 rfl<|qM rfl<|qY rfl (hso) fok164 rfl<|Nl<|Wq<|qW 22 24 rfl<|qM rfl<|qA rfl<|Nl<|Wz ⟨.inl rfl,_,mt,Rc (Rt0 rfl) (Rv),aM,?_⟩
 exact ⟨rfl,rfl⟩
def ownF:List Mem→Int→Option Mem
 | [],_=>none
 | m::l,n=>if n∈m.ports.map (·.id) then some m else ownF l n
def ownV (l:List Mem) (n:Int):AV:=match ownF l n with
 | some m=>.tup [.base (.int .i64 m.asn),.base (.bool true)]
 | none=>.tup [.base (.int .i64 0),.base (.bool false)]
theorem ownF_drop {l:List Mem} {n:Int} {i:Nat} (h:i < l.length) (e:n ∉ l[i].ports.map (·.id)):ownF (l.drop i) n=ownF (l.drop (i + 1)) n:=by
 rw [List.drop_eq_getElem_cons h]
 show (if n∈l[i].ports.map (·.id) then some l[i] else ownF (l.drop (i + 1)) n)=_
 rw [if_neg e]
theorem ownF_at {l:List Mem} {n:Int} {i:Nat} (h:i < l.length) (e:n∈l[i].ports.map (·.id)):ownF (l.drop i) n=some l[i]:=by
 rw [List.drop_eq_getElem_cons h]
 show (if n∈l[i].ports.map (·.id) then some l[i] else ownF (l.drop (i + 1)) n)=_
 rw [if_pos e]
set_option maxHeartbeats 1000000 in
theorem mowner_any (d:Db) (n:Int) (h0:1≤(d.servers++d.members).length) (h1:d.servers.length≤1000) (h2:d.members.length≤1000) (hs:(allP d).length≤1000):AFn Tryz.prog 121 0 [.agg (dbC d),.base (.int .i64 n)] mt (ownV (d.servers++d.members) n) mt:=by
 refine AFn.eq Tryz.func121 rfl rfl (Nat.le_of_ble_eq_true rfl) ?_
 have hall:=allM_any d h0 h1 h2
 have hAl:(d.servers++d.members).length≤2000:=by rw [List.length_append];omega
 unfold allP at hs
 obtain ⟨A,hA⟩:∃ A,A=d.servers++d.members:=⟨_,rfl⟩
 rw [← hA] at hall hAl hs ⊢
 clear hA
 refine Wq<|qW 0 3 rfl<|qC rfl<|qA rfl<|qA rfl<|Nl<|Wq<|Wq<|qW 7 11 rfl<|qG rfl ty105 rfl (Tl rfl)<|qY rfl (hall) fok167 rfl<|qH rfl ty103<|qM rfl<|Nl<|Wb<|W.rename [] 0 (T':=up (up (up (up mt 1 (some (.base (.int .i64 n)))) 11 (some (.isl (memsC A) A.length))) 12 (some (.base (.int .i64 (A.length:Int))))) 13 (some (.base (.int .i64 (0:Int))))) (H':=mt) (by decide) ?_ ?_ ?_
 ·exact aU (lR rfl) (aU (lR rfl) (aU (lR rfl) (aU (lR rfl) aM)))
 ·exact aM
 refine W.loop_ind (α:=Nat) (fun x=>A.length - x) 0 (fun x=>up (up (up (up mt 1 (some (.base (.int .i64 n)))) 11 (some (.isl (memsC A) A.length))) 12 (some (.base (.int .i64 (A.length:Int))))) 13 (some (.base (.int .i64 (x:Int))))) (fun x=>mt) (fun x=>x≤A.length∧ownF A n=ownF (A.drop x) n) 0 (show 0≤A.length∧ownF A n=ownF (A.drop 0) n from ⟨Nat.zero_le _,rfl⟩) ?_
 rintro i hIA ihA
 try (dsimp only at hIA)
 try dsimp only
 obtain ⟨hi,hF⟩:=hIA
 by_cases hc:i < A.length
 ·have g1:decide ((i:Int) < (A.length:Int))=true:=decide_eq_true (by omega)
  have hle:=fm_le (A:=A) (i + 1)
  rw [fm_take hc,List.length_append] at hle
  have hno:=fun e=>ownF_drop (l:=A) (n:=n) hc e
  have hat:=fun e=>ownF_at (l:=A) (n:=n) hc e
  refine Wq<|qW 15 16 rfl<|qK rfl<|Nl<|Wq<|Wt rfl ‹_›<|Wu<|Wq<|Wb<|Wq<|qW 20 24 rfl<|qJ rfl rfl ty103 ty150 (by omega)<|Od rfl rfl (Lg rfl rfl ty150 rfl (mems_tk hc))<|qB rfl ty150<|qS rfl ty150 (Sl rfl) rfl<|Nl ?_
  generalize hmg:A[i]=m at *
  obtain ⟨asn,name,set,max4,max6,ps⟩:=m
  dsimp only at hle hno hat
  refine Wq<|qW 28 32 rfl<|qF rfl ty150 rfl<|qL rfl ty148 rfl<|qH rfl ty148<|qM rfl<|Nl<|Wb<|W.rename [(0,22)] 1 (T':=up (up (up (up (up (up (up (up mt 1 (some (.base (.int .i64 n)))) 7 (some (.own 0 0))) 11 (some (.isl (memsC A) A.length))) 12 (some (.base (.int .i64 (A.length:Int))))) 13 (some (.base (.int .i64 (i:Int))))) 18 (some (.isl (prtsC ps) ps.length))) 19 (some (.base (.int .i64 (ps.length:Int))))) 20 (some (.base (.int .i64 (0:Int))))) (H':=up mt 0 (some (memC ⟨asn,name,set,max4,max6,ps⟩))) (by decide) ?_ ?_ ?_
  ·exact aU (lR rfl) (aU (lR rfl) (aU (lR rfl) (aU (lR rfl) (aU (lR rfl) (aU (lR rfl) (aU (lI rfl) (aU (lR rfl) aM)))))))
  ·exact aU (kR rfl) aM
  refine W.loop_ind (α:=Nat) (fun x=>ps.length - x) 1 (fun x=>up (up (up (up (up (up (up (up mt 1 (some (.base (.int .i64 n)))) 7 (some (.own 0 0))) 11 (some (.isl (memsC A) A.length))) 12 (some (.base (.int .i64 (A.length:Int))))) 13 (some (.base (.int .i64 (i:Int))))) 18 (some (.isl (prtsC ps) ps.length))) 19 (some (.base (.int .i64 (ps.length:Int))))) 20 (some (.base (.int .i64 (x:Int))))) (fun x=>up mt 0 (some (memC ⟨asn,name,set,max4,max6,ps⟩))) (fun x=>x≤ps.length∧n ∉ (ps.take x).map (·.id)) 0 (show 0≤ps.length∧n ∉ (ps.take 0).map (·.id) from ⟨Nat.zero_le _,by simp⟩) ?_
  rintro j hIB ihB
  try (dsimp only at hIB)
  try dsimp only
  obtain ⟨hj,hN⟩:=hIB
  by_cases hd:j < ps.length
  ·have g2:decide ((j:Int) < (ps.length:Int))=true:=decide_eq_true (by omega)
   have hmem:ps[j]∈ps:=List.getElem_mem hd
   have htk:ps.take (j + 1)=ps.take j++[ps[j]]:=List.take_succ_eq_append_getElem hd
   refine Wq<|qW 36 37 rfl<|qK rfl<|Nl<|Wq<|Wt rfl ‹_›<|Wu<|Wq<|Wb<|Wq<|qW 41 45 rfl<|qJ rfl rfl ty148 ty157 (by omega)<|Od rfl rfl (Lg rfl rfl ty157 rfl (prts_tk hd))<|qB rfl ty157<|qS rfl ty157 (Sl rfl) rfl<|Nl ?_
   generalize ps[j]=p at *
   obtain ⟨a1,a2,a3,a4,a5,a6⟩:=p
   by_cases he:a1=n
   ·have e1:(a1 == n)=true:=by simpa using he
    have hyes:n∈ps.map (·.id):=List.mem_map.2 ⟨_,hmem,he⟩
    refine Wq<|qW 49 53 rfl<|qF rfl ty157 rfl<|qL rfl ty3 rfl<|qM rfl<|qE rfl<|Nl<|Wt rfl ‹_›<|Wq<|qW 57 61 rfl<|qF rfl ty150 rfl<|qL rfl ty3 rfl<|qA rfl<|qA rfl<|Nl<|Wz ⟨.inl rfl,_,mt,Rc (Rt0 rfl) (Rc (Rt0 rfl) (Rv)),aM,?_⟩
    exact ⟨by unfold ownV;rw [hF,hat hyes];rfl,rfl⟩
   ·have e1:(a1 == n)=false:=by simpa using he
    refine Wq<|qW 49 53 rfl<|qF rfl ty157 rfl<|qL rfl ty3 rfl<|qM rfl<|qE rfl<|Nl<|Wo rfl ‹_›<|Wu<|qW 65 67 rfl<|qZ rfl (iW _ (by omega))<|qM rfl<|Nl ?_
    refine WL.rename [(0,0)] 1 (by decide) ?_ ?_ (ihB (j + 1) (show ps.length - (j + 1) < ps.length - j from by omega) (show (j + 1)≤ps.length∧n ∉ (ps.take (j + 1)).map (·.id) from ⟨by omega,by rw [htk,List.map_append,List.mem_append];exact fun h=>h.elim hN (fun h=>he (by simpa using (List.mem_singleton.1 h).symm))⟩))
    ·exact aU (lR rfl) (aU (lR rfl) (aU (lR rfl) (aU (lR rfl) (aU (lR rfl) (aU (lR rfl) (aU (lI rfl) (aU (lR rfl) aM)))))))
    ·exact aU (kR rfl) aM
  ·have g2:decide ((j:Int) < (ps.length:Int))=false:=decide_eq_false (by omega)
   obtain rfl:j=ps.length:=by omega
   rw [List.take_length] at hN
   refine Wq<|qW 36 37 rfl<|qK rfl<|Nl<|Wq<|Wo rfl ‹_›<|Wx ?_
   clear ihB
   refine qW 71 73 rfl<|qZ rfl (iW _ (by omega))<|qM rfl<|Nl<|WL.rename [] 0 (by decide) ?_ ?_ (ihA (i + 1) (show A.length - (i + 1) < A.length - i from by omega) (show (i + 1)≤A.length∧ownF A n=ownF (A.drop (i + 1)) n from ⟨by omega,hF.trans (hno hN)⟩))
   ·exact aU (lR rfl) (aU (lR rfl) (aU (lR rfl) (aU (lR rfl) aM)))
   ·exact aM
 ·have g1:decide ((i:Int) < (A.length:Int))=false:=decide_eq_false (by omega)
  obtain rfl:i=A.length:=by omega
  rw [List.drop_length] at hF
  refine Wq<|qW 15 16 rfl<|qK rfl<|Nl<|Wq<|Wo rfl ‹_›<|Wx<|Wq<|qW 77 79 rfl<|qA rfl<|qA rfl<|Nl<|Wz ⟨.inl rfl,_,mt,Rc (Rt0 rfl) (Rc (Rt0 rfl) (Rv)),aM,?_⟩
  exact ⟨by unfold ownV;rw [hF];rfl,rfl⟩
theorem validE4:AFn Tryz.prog 183 0 [.agg (preC lan4)] mt (.base (.bool true)) mt:=by
 refine AFn.eq Tryz.func183 rfl rfl (Nat.le_of_ble_eq_true rfl) ?_
 have hv:=avalid_any lan4.ad
 have hw:=widthE_any lan4.ad
 have hf:=first4 0 3221225984 (by unfold U64;decide) (by unfold U64;decide)
 rw [show validA lan4.ad.v6 lan4.ad.hi lan4.ad.lo=true from by decide +kernel] at hv
 unfold widthA at hw
 rw [show (3221225984:Int) / 256 * 256=3221225984 from by decide] at hf
 have he:eqA lan4.ad lan4.ad=true:=by decide +kernel
 refine Wq<|qW 0 2 rfl<|qC rfl<|qA rfl<|Nl<|Wq<|Wd 6 33 (by decide) rfl mixed rfl<|qF rfl ty56 rfl<|qG rfl ty54 rfl (Tl rfl)<|qY rfl (hv) fok174 rfl<|qM rfl<|gF rfl rfl ty56 rfl<|gL rfl rfl ty3 rfl<|gGe rfl rfl<|qT rfl rfl rfl<|qM rfl<|gF rfl rfl ty56 rfl<|gL rfl rfl ty3 rfl<|gF rfl rfl ty56 rfl<|gG rfl rfl ty54 rfl (Tl rfl)<|gY rfl rfl (hw) fok147 rfl<|gLe rfl rfl<|qT rfl rfl rfl<|qM rfl<|gF rfl rfl ty56 rfl<|gG rfl rfl ty54 rfl (Tl rfl)<|gF rfl rfl ty56 rfl<|gL rfl rfl ty3 rfl<|gY rfl rfl (hf) fok148 rfl<|gF rfl rfl ty56 rfl<|gG rfl rfl ty54 rfl (Tl rfl)<|qU rfl rfl rfl (LO.eql_ad_b lan4.ad lan4.ad he rfl rfl rfl)<|qT rfl rfl rfl<|qA rfl<|Nl ⟨by kernel_rfl,(Wz ⟨.inl rfl,_,mt,Rc (Rt0 rfl) (Rv),aM,?_⟩)⟩
 exact ⟨rfl,rfl⟩
theorem validE6:AFn Tryz.prog 183 0 [.agg (preC lan6)] mt (.base (.bool true)) mt:=by
 refine AFn.eq Tryz.func183 rfl rfl (Nat.le_of_ble_eq_true rfl) ?_
 have hv:=avalid_any lan6.ad
 have hw:=widthE_any lan6.ad
 have hf:=first6 2306139568115548160 0 (by unfold U64;decide) (by unfold U64;decide)
 rw [show validA lan6.ad.v6 lan6.ad.hi lan6.ad.lo=true from by decide +kernel] at hv
 unfold widthA at hw
 have he:eqA lan6.ad lan6.ad=true:=by decide +kernel
 refine Wq<|qW 0 2 rfl<|qC rfl<|qA rfl<|Nl<|Wq<|Wd 6 33 (by decide) rfl mixed rfl<|qF rfl ty56 rfl<|qG rfl ty54 rfl (Tl rfl)<|qY rfl (hv) fok174 rfl<|qM rfl<|gF rfl rfl ty56 rfl<|gL rfl rfl ty3 rfl<|gGe rfl rfl<|qT rfl rfl rfl<|qM rfl<|gF rfl rfl ty56 rfl<|gL rfl rfl ty3 rfl<|gF rfl rfl ty56 rfl<|gG rfl rfl ty54 rfl (Tl rfl)<|gY rfl rfl (hw) fok147 rfl<|gLe rfl rfl<|qT rfl rfl rfl<|qM rfl<|gF rfl rfl ty56 rfl<|gG rfl rfl ty54 rfl (Tl rfl)<|gF rfl rfl ty56 rfl<|gL rfl rfl ty3 rfl<|gY rfl rfl (hf) fok148 rfl<|gF rfl rfl ty56 rfl<|gG rfl rfl ty54 rfl (Tl rfl)<|qU rfl rfl rfl (LO.eql_ad_b lan6.ad lan6.ad he rfl rfl rfl)<|qT rfl rfl rfl<|qA rfl<|Nl ⟨by kernel_rfl,(Wz ⟨.inl rfl,_,mt,Rc (Rt0 rfl) (Rv),aM,?_⟩)⟩
 exact ⟨rfl,rfl⟩
theorem lastE4:AFn Tryz.prog 188 0 [.agg (preC lan4)] mt (.agg (adC ⟨false,0,3221226239⟩)) mt:=by
 refine AFn.eq Tryz.func188 rfl rfl (Nat.le_of_ble_eq_true rfl) ?_
 have hv:=validE4
 have hw:=widthE_any lan4.ad
 have hm:=masks8
 have e1:bitV .or .u64 0 0=0:=by decide +kernel
 have e2:bitV .or .u64 3221225984 255=3221226239:=by decide +kernel
 unfold widthA at hw
 refine Wq<|qW 0 2 rfl<|qC rfl<|qB rfl ty54<|Nl<|Wq<|Wq<|qW 6 9 rfl<|qG rfl ty56 rfl (Tl rfl)<|qY rfl (hv) fok183 rfl<|qO rfl<|Nl<|Wo rfl rfl<|Wu<|Wq<|Wd 19 31 (by decide) rfl mixed rfl<|qF rfl ty56 rfl<|qG rfl ty54 rfl (Tl rfl)<|qY rfl (hw) fok147 rfl<|qF rfl ty56 rfl<|qL rfl ty3 rfl<|Od rfl rfl (LO.sub rfl rfl rfl)<|qY rfl (hm) fok175 rfl<|qM rfl<|qX rfl<|qX rfl<|qA rfl<|qA rfl<|Nl ⟨by kernel_rfl,(Wq<|qW 35 43 rfl<|qF rfl ty56 rfl<|qF rfl ty54 rfl<|qL rfl ty52 rfl<|qM rfl<|Od rfl rfl (LO.or rfl rfl rfl)<|qF rfl ty56 rfl<|qF rfl ty54 rfl<|qS rfl ty52 (Sl rfl) rfl<|Nl<|Wq<|qW 47 55 rfl<|qF rfl ty56 rfl<|qF rfl ty54 rfl<|qL rfl ty52 rfl<|qM rfl<|Od rfl rfl (LO.or rfl rfl rfl)<|qF rfl ty56 rfl<|qF rfl ty54 rfl<|qS rfl ty52 (Sl rfl) rfl<|Nl<|Wq<|qW 59 62 rfl<|qF rfl ty56 rfl<|qG rfl ty54 rfl (Tl rfl)<|qS rfl ty54 (Sl rfl) rfl<|Nl<|Wz ⟨.inl rfl,_,mt,(Rc (Ra0 rfl rfl ty54 rfl (Tl rfl)) Rv),aM,?_⟩)⟩
 exact ⟨rfl,rfl⟩
theorem LO.neq_ad_b {o:Oper} {E:Operand→Option AV} {H:Hp} {f:Nat} {ty:TypeId} {x y:Operand} {r:Bool} (a b:Ad) (h:(!eqA a b)=r) (ho:o.op=.binOp .neq 54 x y ty) (hx:E x=some (.agg (adC a))) (hy:E y=some (.agg (adC b))):LO Tryz.prog o E H f [] [] (.base (.bool r)) H:=h ▸ LO.neq_ad a b ho hx hy
theorem four_inE (n:Fin 15):in4 (fourA (n.val:Int))=true∧eqA (fourA (n.val:Int)) lan4.ad=false∧eqA (fourA (n.val:Int)) ⟨false,0,3221226239⟩=false∧(!eqA (fourA (n.val:Int)) ⟨false,0,0⟩)=true:=by
 revert n;decide +kernel
theorem six_inE (n:Fin 15):in6 (sixA (n.val:Int))=true∧eqA (sixA (n.val:Int)) lan6.ad=false∧(!eqA (sixA (n.val:Int)) ⟨false,0,0⟩)=true:=by
 revert n;decide +kernel
set_option maxHeartbeats 2000000 in
theorem inside_any (d:Db) (hd:DbOk d) (h0:1≤(d.servers++d.members).length) (hs:(allP d).length≤1000) (hps:∀ p,p∈allP d→PrtOk p):AFn Tryz.prog 160 0 [.agg (dbC d)] mt (.base (.bool true)) mt:=by
 refine AFn.eq Tryz.func160 rfl rfl (Nat.le_of_ble_eq_true rfl) ?_
 have h4:=hd.ns
 have h32:=hd.nm
 have e4:=hd.l4
 have e6:=hd.l6
 have hall:=portsM_any d h0 (by omega) (by omega) hs
 generalize allP d=ps at *
 clear hd
 obtain ⟨l4,l6,sv,mb⟩:=d
 dsimp only at e4 e6
 subst e4 e6
 have hlast:=lastE4
 refine Wq<|qW 0 2 rfl<|qC rfl<|qA rfl<|Nl<|Wq<|Wq<|qW 6 10 rfl<|qG rfl ty105 rfl (Tl rfl)<|qY rfl (hall) fok163 rfl<|qH rfl ty148<|qM rfl<|Nl<|Wb<|W.rename [(0,0)] 1 (T':=up (up (up (up mt 1 (some (.own 0 0))) 7 (some (.isl (prtsC ps) ps.length))) 8 (some (.base (.int .i64 (ps.length:Int))))) 9 (some (.base (.int .i64 (0:Int))))) (H':=up mt 0 (some (dbC ⟨lan4,lan6,sv,mb⟩))) (by decide) ?_ ?_ ?_
 ·exact aU (lR rfl) (aU (lR rfl) (aU (lR rfl) (aU (lI rfl) aM)))
 ·exact aU (kR rfl) aM
 refine W.loop_ind (α:=Nat) (fun x=>ps.length - x) 1 (fun x=>up (up (up (up mt 1 (some (.own 0 0))) 7 (some (.isl (prtsC ps) ps.length))) 8 (some (.base (.int .i64 (ps.length:Int))))) 9 (some (.base (.int .i64 (x:Int))))) (fun x=>up mt 0 (some (dbC ⟨lan4,lan6,sv,mb⟩))) (fun x=>x≤ps.length) 0 (show 0≤ps.length from Nat.zero_le _) ?_
 rintro j hIA ihA
 try (dsimp only at hIA)
 try dsimp only
 by_cases hc2:j < ps.length
 ·have g2:decide ((j:Int) < (ps.length:Int))=true:=decide_eq_true (by omega)
  have hp:=hps _ (List.getElem_mem hc2)
  refine Wq<|qW 14 15 rfl<|qK rfl<|Nl<|Wq<|Wt rfl ‹_›<|Wu<|Wq<|Wb<|Wq<|qW 19 23 rfl<|qJ rfl rfl ty148 ty157 (by omega)<|Od rfl rfl (Lg rfl rfl ty157 rfl (prts_tk hc2))<|qB rfl ty157<|qS rfl ty157 (Sl rfl) rfl<|Nl ?_
  generalize ps[j]=p at *
  obtain ⟨id,sw,sp,macs,v4,v6⟩:=p
  have a4:=hp.a4
  have a6:=hp.a6
  clear hp
  dsimp only at a4 a6
  refine Wq<|qW 27 30 rfl<|Od rfl rfl (Bs rfl ty54 .nil)<|qB rfl ty54<|qS rfl ty54 (Sl rfl) rfl<|Nl<|Wq<|W.joinK (α:=Unit) 3 (fun x=>[(1,.own 0 0),(4,.own 1 0),(5,.own 2 0)]) (fun x=>up (up (up mt 0 (some (dbC ⟨lan4,lan6,sv,mb⟩))) 1 (some (prtC ⟨id,sw,sp,macs,v4,v6⟩))) 2 (some (adC ⟨false,0,0⟩))) (fun x=>True) (.cons (t:=7) rfl (by exact .inl rfl) (.cons (t:=8) rfl (by exact .inl rfl) (.cons (t:=9) rfl (by exact .inl rfl) .nil))) ?_ ?_
  rotate_left
  rintro q hIJ
  try (dsimp only at hIJ)
  try dsimp only [joinT,baseT,List.cons_append,List.nil_append]
  rotate_right
  ·
   rcases a4 with e|⟨n,e⟩
   ·
    subst e
    refine Wq<|Wd 34 62 (by decide) rfl mixed rfl<|qF rfl ty157 rfl<|qG rfl ty54 rfl (Tl rfl)<|qG rfl ty54 rfl (Tl rfl)<|Od rfl rfl (LO.neq_ad_b (⟨false,0,0⟩:Ad) ⟨false,0,0⟩ (show (!eqA ⟨false,0,0⟩ ⟨false,0,0⟩)=false from rfl) rfl rfl rfl)<|qM rfl<|qD rfl rfl rfl<|qD rfl rfl rfl<|qD rfl rfl rfl<|qD rfl rfl rfl<|qD rfl rfl rfl<|qD rfl rfl rfl<|qD rfl rfl rfl<|Ud rfl rfl rfl rfl<|Ud rfl rfl rfl rfl<|Ud rfl rfl rfl rfl<|Ud rfl rfl rfl rfl<|Ud rfl rfl rfl rfl<|Ud rfl rfl rfl rfl<|qD rfl rfl rfl<|qD rfl rfl rfl<|Ud rfl rfl rfl rfl<|Ud rfl rfl rfl rfl<|Ud rfl rfl rfl rfl<|Ud rfl rfl rfl rfl<|Ud rfl rfl rfl rfl<|Ud rfl rfl rfl rfl<|qD rfl rfl rfl<|qP rfl rfl rfl<|Nl ⟨by kernel_rfl,(Wo rfl rfl<|Wu ?_)⟩
    intro yJ KJ hJ
    refine W.renameJ [(0,0),(1,21),(2,28)] 3 (by decide) ?_ ?_ (hJ (()) (show True from trivial))
    ·exact lC (lI rfl) (lC (lI rfl) (lC (lI rfl) (lC (lR rfl) (lC (lR rfl) (lC (lR rfl) lN)))))
    ·exact aU (kR rfl) (aU (kR rfl) (aU (kR rfl) aM))
   ·
    subst e
    obtain ⟨u1,u2,u3⟩:=u64_four n
    have hct:=conE4 (fourA (n.val:Int)) rfl u1 u2 u3
    obtain ⟨i1,i2,i3,i4⟩:=four_inE n
    rw [i1] at hct
    clear u1
    refine Wq<|Wd 34 62 (by decide) rfl mixed rfl<|qF rfl ty157 rfl<|qG rfl ty54 rfl (Tl rfl)<|qG rfl ty54 rfl (Tl rfl)<|Od rfl rfl (LO.neq_ad_b (fourA (n.val:Int)) ⟨false,0,0⟩ i4 rfl rfl rfl)<|qM rfl<|gF rfl rfl ty105 rfl<|gG rfl rfl ty56 rfl (Tl rfl)<|gF rfl rfl ty157 rfl<|gG rfl rfl ty54 rfl (Tl rfl)<|gY rfl rfl (hct) fok113 rfl<|gO rfl rfl<|gM rfl rfl<|gF rfl rfl ty157 rfl<|gG rfl rfl ty54 rfl (Tl rfl)<|gF rfl rfl ty105 rfl<|gF rfl rfl ty56 rfl<|gG rfl rfl ty54 rfl (Tl rfl)<|qU rfl rfl rfl (LO.eql_ad_b (fourA (n.val:Int)) lan4.ad i2 rfl rfl rfl)<|qU rfl rfl rfl (Pf0 rfl rfl rfl rfl)<|gM rfl rfl<|gF rfl rfl ty157 rfl<|gG rfl rfl ty54 rfl (Tl rfl)<|gF rfl rfl ty105 rfl<|gG rfl rfl ty56 rfl (Tl rfl)<|gY rfl rfl (hlast) fok188 rfl<|qU rfl rfl rfl (LO.eql_ad_b (fourA (n.val:Int)) ⟨false,0,3221226239⟩ i3 rfl rfl rfl)<|qU rfl rfl rfl (Pf0 rfl rfl rfl rfl)<|qT rfl rfl rfl<|Nl ⟨by kernel_rfl,(Wo rfl rfl<|Wu ?_)⟩
    intro yJ KJ hJ
    refine W.renameJ [(0,0),(1,21),(2,28)] 3 (by decide) ?_ ?_ (hJ (()) (show True from trivial))
    ·exact lC (lI rfl) (lC (lI rfl) (lC (lI rfl) (lC (lR rfl) (lC (lR rfl) (lC (lR rfl) lN)))))
    ·exact aU (kR rfl) (aU (kR rfl) (aU (kR rfl) aM))
  rcases a6 with e|⟨n,e⟩
  ·
   subst e
   refine Wq<|qW 71 91 rfl<|qF rfl ty157 rfl<|qG rfl ty54 rfl (Tl rfl)<|qG rfl ty54 rfl (Tl rfl)<|Od rfl rfl (LO.neq_ad_b (⟨false,0,0⟩:Ad) ⟨false,0,0⟩ (show (!eqA ⟨false,0,0⟩ ⟨false,0,0⟩)=false from rfl) rfl rfl rfl)<|qM rfl<|qD rfl rfl rfl<|qD rfl rfl rfl<|qD rfl rfl rfl<|qD rfl rfl rfl<|qD rfl rfl rfl<|qD rfl rfl rfl<|qD rfl rfl rfl<|Ud rfl rfl rfl rfl<|Ud rfl rfl rfl rfl<|Ud rfl rfl rfl rfl<|Ud rfl rfl rfl rfl<|Ud rfl rfl rfl rfl<|Ud rfl rfl rfl rfl<|qD rfl rfl rfl<|qP rfl rfl rfl<|Nl<|Wo rfl rfl<|Wu<|qW 100 102 rfl<|qZ rfl (iW _ (by omega))<|qM rfl<|Nl<|WL.rename [(0,0)] 1 (by decide) ?_ ?_ (ihA (j + 1) (show ps.length - (j + 1) < ps.length - j from by omega) (show (j + 1)≤ps.length from by omega))
   ·exact aU (lR rfl) (aU (lR rfl) (aU (lR rfl) (aU (lI rfl) aM)))
   ·exact aU (kR rfl) aM
  ·
   subst e
   obtain ⟨u1,u2,u3⟩:=u64_six n
   have hct:=conE6 (sixA (n.val:Int)) rfl u2 u3
   obtain ⟨i1,i2,i4⟩:=six_inE n
   rw [i1] at hct
   clear u1
   refine Wq<|qW 71 91 rfl<|qF rfl ty157 rfl<|qG rfl ty54 rfl (Tl rfl)<|qG rfl ty54 rfl (Tl rfl)<|Od rfl rfl (LO.neq_ad_b (sixA (n.val:Int)) ⟨false,0,0⟩ i4 rfl rfl rfl)<|qM rfl<|gF rfl rfl ty105 rfl<|gG rfl rfl ty56 rfl (Tl rfl)<|gF rfl rfl ty157 rfl<|gG rfl rfl ty54 rfl (Tl rfl)<|gY rfl rfl (hct) fok113 rfl<|gO rfl rfl<|gM rfl rfl<|gF rfl rfl ty157 rfl<|gG rfl rfl ty54 rfl (Tl rfl)<|gF rfl rfl ty105 rfl<|gF rfl rfl ty56 rfl<|gG rfl rfl ty54 rfl (Tl rfl)<|qU rfl rfl rfl (LO.eql_ad_b (sixA (n.val:Int)) lan6.ad i2 rfl rfl rfl)<|qU rfl rfl rfl (Pf0 rfl rfl rfl rfl)<|qT rfl rfl rfl<|Nl<|Wo rfl rfl<|Wu<|qW 100 102 rfl<|qZ rfl (iW _ (by omega))<|qM rfl<|Nl<|WL.rename [(0,0)] 1 (by decide) ?_ ?_ (ihA (j + 1) (show ps.length - (j + 1) < ps.length - j from by omega) (show (j + 1)≤ps.length from by omega))
   ·exact aU (lR rfl) (aU (lR rfl) (aU (lR rfl) (aU (lI rfl) aM)))
   ·exact aU (kR rfl) aM
 ·have g2:decide ((j:Int) < (ps.length:Int))=false:=decide_eq_false (by omega)
  refine Wq<|qW 14 15 rfl<|qK rfl<|Nl<|Wq<|Wo rfl ‹_›<|Wx<|Wq<|qW 106 107 rfl<|qA rfl<|Nl<|Wz ⟨.inl rfl,_,mt,Rc (Rt0 rfl) (Rv),aM,?_⟩
  exact ⟨rfl,rfl⟩
theorem grpE_no {m:List Int} (hB:IsB m) (h:grpM m=false):grpE m=false:=by
 cases m with
 | nil=>rfl
 | cons x r=>rw [← grp_eq (hB x (by simp)) r];exact h
set_option maxHeartbeats 1000000 in
theorem portE_any (p:Prt) (hp:PrtOk p):AFn Tryz.prog 187 0 [.agg (prtC p)] mt (.base (.bool true)) mt:=by
 refine AFn.eq Tryz.func187 rfl rfl (Nat.le_of_ble_eq_true rfl) ?_
 have hnm:=hp.nm
 have hmacs:=hp.macs
 have w1:=mwithin_yes hp.id.1 hp.id.2
 have w2:=mwithin_yes hp.sw.1 hp.sw.2
 have w3:=mwithin_yes hp.speed.1 hp.speed.2
 have hv:=avalid_any p.v4
 obtain ⟨c1,c2,_,_⟩:=hp.cases4
 rw [c1] at hv
 have s0:(!p.v4.v6)=true:=by rw [c2];rfl
 have hs:(eqA p.v4 ⟨false,0,0⟩=true∧eqA p.v6 ⟨false,0,0⟩=false∧p.v6.v6=true)∨(eqA p.v4 ⟨false,0,0⟩=false∧eqA p.v6 ⟨false,0,0⟩=true)∨(eqA p.v4 ⟨false,0,0⟩=false∧eqA p.v6 ⟨false,0,0⟩=false∧p.v6.v6=true):=by
  have f6:∀ n:Fin 15,eqA (sixA (n.val:Int)) ⟨false,0,0⟩=false∧(sixA (n.val:Int)).v6=true:=by decide
  have f4:∀ n:Fin 15,eqA (fourA (n.val:Int)) ⟨false,0,0⟩=false:=by decide
  rcases hp.a4 with e|⟨n,e⟩
  ·rcases hp.a6 with e6|⟨m,e6⟩
   ·exact absurd e6 (hp.aa e)
   ·rw [e,e6];exact .inl ⟨rfl,f6 m⟩
  ·rcases hp.a6 with e6|⟨m,e6⟩
   ·rw [e,e6];exact .inr (.inl ⟨f4 n,rfl⟩)
   ·rw [e,e6];exact .inr (.inr ⟨f4 n,f6 m⟩)
 refine Wq<|qW 0 2 rfl<|qC rfl<|qA rfl<|Nl<|Wq<|Wq<|qW 6 10 rfl<|qF rfl ty157 rfl<|qL rfl ty36 rfl<|qH rfl ty36<|qM rfl<|Nl<|Wb<|W.rename [(0,0)] 1 (T':=up (up (up (up mt 1 (some (.own 0 0))) 7 (some (.isl (macsC p.macs) p.macs.length))) 8 (some (.base (.int .i64 (p.macs.length:Int))))) 9 (some (.base (.int .i64 (0:Int))))) (H':=up mt 0 (some (prtC p))) (by decide) ?_ ?_ ?_
 ·exact aU (lR rfl) (aU (lR rfl) (aU (lR rfl) (aU (lI rfl) aM)))
 ·exact aU (kR rfl) aM
 refine W.loop_ind (α:=Nat) (fun x=>p.macs.length - x) 1 (fun x=>up (up (up (up mt 1 (some (.own 0 0))) 7 (some (.isl (macsC p.macs) p.macs.length))) 8 (some (.base (.int .i64 (p.macs.length:Int))))) 9 (some (.base (.int .i64 (x:Int))))) (fun x=>up mt 0 (some (prtC p))) (fun x=>x≤p.macs.length) 0 (show 0≤p.macs.length from Nat.zero_le _) ?_
 rintro i hIA ihA
 try (dsimp only at hIA)
 try dsimp only
 by_cases hc:i < p.macs.length
 ·have g1:decide ((i:Int) < (p.macs.length:Int))=true:=decide_eq_true (by omega)
  obtain ⟨m1,m2,m3,m4⟩:=hmacs _ (List.getElem_mem hc)
  have htk:=macs_tk (fun m hm=>(hmacs m hm).1) hc
  have hgr:=grpE_any p.macs[i] m1
  rw [show grpE p.macs[i]=false from grpE_no m2 m3] at hgr
  have k1:decide (p.macs[i]=[0,0,0,0,0,0])=false:=decide_eq_false m4
  refine Wq<|qW 14 15 rfl<|qK rfl<|Nl<|Wq<|Wt rfl ‹_›<|Wu<|Wq<|Wb<|Wq<|qW 19 23 rfl<|qJ rfl rfl ty36 ty23 (by omega)<|Od rfl rfl (Lg rfl rfl ty23 rfl htk)<|qB rfl ty23<|On rfl rfl (Sr rfl rfl rfl rfl rfl ty23 ((bytesC_len _).trans m1) (by decide) (sp_all ((bytesC_len _).trans m1)))<|Nl ?_
  generalize p.macs[i]=mc at *
  refine Wq<|qW 27 34 rfl<|qG rfl ty23 rfl (bytes_tk m1)<|Od rfl rfl (C0 (fr:=[]) rfl rfl (hgr) fok73 (.cons rfl (.pure (bytesC_pure _)) .nil) rfl)<|qM rfl<|gG rfl rfl ty23 rfl (bytes_tk m1)<|qU rfl rfl rfl (LO.build_ar rfl ty23 ty5 .nil)<|qU rfl rfl rfl (LO.eql_mac mc [0,0,0,0,0,0] m1 rfl rfl rfl rfl)<|qP rfl rfl rfl<|Nl<|Wo rfl ‹_›<|Wu<|qW 43 45 rfl<|qZ rfl (iW _ (by omega))<|qM rfl<|Nl<|WL.rename [(0,0)] 1 (by decide) ?_ ?_ (ihA (i + 1) (show p.macs.length - (i + 1) < p.macs.length - i from by omega) (show (i + 1)≤p.macs.length from by omega))
  ·exact aU (lR rfl) (aU (lR rfl) (aU (lR rfl) (aU (lI rfl) aM)))
  ·exact aU (kR rfl) aM
 ·have g1:decide ((i:Int) < (p.macs.length:Int))=false:=decide_eq_false (by omega)
  refine Wq<|qW 14 15 rfl<|qK rfl<|Nl<|Wq<|Wo rfl ‹_›<|Wx ?_
  clear ihA
  refine Wq<|qW 49 52 rfl<|Od rfl rfl (Bs rfl ty54 .nil)<|qB rfl ty54<|qS rfl ty54 (Sl rfl) rfl<|Nl ?_
  rcases hs with ⟨s1,s2,s3⟩|⟨s1,s2⟩|⟨s1,s2,s3⟩
  all_goals
   have s4:(!eqA p.v4 ⟨false,0,0⟩)=(!eqA p.v4 ⟨false,0,0⟩):=rfl
   rw [s1] at s4
  ·
   have s5:(!eqA p.v6 ⟨false,0,0⟩)=true:=by rw [s2];rfl
   have s6:(!eqA p.v4 ⟨false,0,0⟩)=false:=by rw [s1];rfl
   refine Wq<|qW 56 104 rfl<|qF rfl ty157 rfl<|qL rfl ty3 rfl<|qY rfl (w1) fok182 rfl<|qM rfl<|gF rfl rfl ty157 rfl<|gL rfl rfl ty3 rfl<|gY rfl rfl (w2) fok182 rfl<|qT rfl rfl rfl<|qM rfl<|gF rfl rfl ty157 rfl<|gL rfl rfl ty3 rfl<|gY rfl rfl (w3) fok182 rfl<|qT rfl rfl rfl<|qM rfl<|gF rfl rfl ty157 rfl<|gG rfl rfl ty54 rfl (Tl rfl)<|gY rfl rfl (hv) fok174 rfl<|qT rfl rfl rfl<|qM rfl<|gF rfl rfl ty157 rfl<|gF rfl rfl ty54 rfl<|gL rfl rfl ty4 rfl<|gO rfl rfl<|qT rfl rfl rfl<|qM rfl<|gF rfl ‹_› ty157 rfl<|gG rfl ‹_› ty54 rfl (Tl rfl)<|gG rfl ‹_› ty54 rfl (Tl rfl)<|qU rfl ‹_› rfl (LO.eql_ad_b p.v6 ⟨false,0,0⟩ s2 rfl rfl rfl)<|gM rfl ‹_›<|gF rfl rfl ty157 rfl<|gF rfl rfl ty54 rfl<|gL rfl rfl ty4 rfl<|qU rfl ‹_› rfl (Pf0 rfl rfl rfl rfl)<|qT rfl ‹_› rfl<|qM rfl<|gF rfl ‹_› ty157 rfl<|gG rfl ‹_› ty54 rfl (Tl rfl)<|gG rfl ‹_› ty54 rfl (Tl rfl)<|qU rfl ‹_› rfl (LO.neq_ad_b p.v4 ⟨false,0,0⟩ s6 rfl rfl rfl)<|gM rfl ‹_›<|gF rfl rfl ty157 rfl<|gG rfl rfl ty54 rfl (Tl rfl)<|gG rfl rfl ty54 rfl (Tl rfl)<|qU rfl rfl rfl (LO.neq_ad_b p.v6 ⟨false,0,0⟩ s5 rfl rfl rfl)<|qU rfl ‹_› rfl (Pf0 rfl rfl rfl rfl)<|qT rfl ‹_› rfl<|qA rfl<|Nl<|Wz ⟨.inl rfl,_,mt,Rc (Rt0 rfl) (Rv),aM,?_⟩
   exact ⟨rfl,rfl⟩
  ·
   have s6:(!eqA p.v4 ⟨false,0,0⟩)=true:=by rw [s1];rfl
   refine Wq<|qW 56 104 rfl<|qF rfl ty157 rfl<|qL rfl ty3 rfl<|qY rfl (w1) fok182 rfl<|qM rfl<|gF rfl rfl ty157 rfl<|gL rfl rfl ty3 rfl<|gY rfl rfl (w2) fok182 rfl<|qT rfl rfl rfl<|qM rfl<|gF rfl rfl ty157 rfl<|gL rfl rfl ty3 rfl<|gY rfl rfl (w3) fok182 rfl<|qT rfl rfl rfl<|qM rfl<|gF rfl rfl ty157 rfl<|gG rfl rfl ty54 rfl (Tl rfl)<|gY rfl rfl (hv) fok174 rfl<|qT rfl rfl rfl<|qM rfl<|gF rfl rfl ty157 rfl<|gF rfl rfl ty54 rfl<|gL rfl rfl ty4 rfl<|gO rfl rfl<|qT rfl rfl rfl<|qM rfl<|gF rfl ‹_› ty157 rfl<|gG rfl ‹_› ty54 rfl (Tl rfl)<|gG rfl ‹_› ty54 rfl (Tl rfl)<|qU rfl ‹_› rfl (LO.eql_ad_b p.v6 ⟨false,0,0⟩ s2 rfl rfl rfl)<|gM rfl ‹_›<|qD rfl rfl rfl<|qD rfl rfl rfl<|qD rfl rfl rfl<|qU rfl ‹_› rfl (Pt rfl rfl rfl rfl)<|qT rfl ‹_› rfl<|qM rfl<|gF rfl rfl ty157 rfl<|gG rfl rfl ty54 rfl (Tl rfl)<|gG rfl rfl ty54 rfl (Tl rfl)<|qU rfl rfl rfl (LO.neq_ad_b p.v4 ⟨false,0,0⟩ s6 rfl rfl rfl)<|gM rfl rfl<|qD rfl rfl rfl<|qD rfl rfl rfl<|qD rfl rfl rfl<|qD rfl rfl rfl<|qU rfl rfl rfl (Pt rfl rfl rfl rfl)<|qT rfl rfl rfl<|qA rfl<|Nl<|Wz ⟨.inl rfl,_,mt,Rc (Rt0 rfl) (Rv),aM,?_⟩
   exact ⟨rfl,rfl⟩
  ·
   have s6:(!eqA p.v4 ⟨false,0,0⟩)=true:=by rw [s1];rfl
   refine Wq<|qW 56 104 rfl<|qF rfl ty157 rfl<|qL rfl ty3 rfl<|qY rfl (w1) fok182 rfl<|qM rfl<|gF rfl rfl ty157 rfl<|gL rfl rfl ty3 rfl<|gY rfl rfl (w2) fok182 rfl<|qT rfl rfl rfl<|qM rfl<|gF rfl rfl ty157 rfl<|gL rfl rfl ty3 rfl<|gY rfl rfl (w3) fok182 rfl<|qT rfl rfl rfl<|qM rfl<|gF rfl rfl ty157 rfl<|gG rfl rfl ty54 rfl (Tl rfl)<|gY rfl rfl (hv) fok174 rfl<|qT rfl rfl rfl<|qM rfl<|gF rfl rfl ty157 rfl<|gF rfl rfl ty54 rfl<|gL rfl rfl ty4 rfl<|gO rfl rfl<|qT rfl rfl rfl<|qM rfl<|gF rfl ‹_› ty157 rfl<|gG rfl ‹_› ty54 rfl (Tl rfl)<|gG rfl ‹_› ty54 rfl (Tl rfl)<|qU rfl ‹_› rfl (LO.eql_ad_b p.v6 ⟨false,0,0⟩ s2 rfl rfl rfl)<|gM rfl ‹_›<|gF rfl rfl ty157 rfl<|gF rfl rfl ty54 rfl<|gL rfl rfl ty4 rfl<|qU rfl ‹_› rfl (Pf0 rfl rfl rfl rfl)<|qT rfl ‹_› rfl<|qM rfl<|gF rfl ‹_› ty157 rfl<|gG rfl ‹_› ty54 rfl (Tl rfl)<|gG rfl ‹_› ty54 rfl (Tl rfl)<|qU rfl ‹_› rfl (LO.neq_ad_b p.v4 ⟨false,0,0⟩ s6 rfl rfl rfl)<|gM rfl ‹_›<|qD rfl rfl rfl<|qD rfl rfl rfl<|qD rfl rfl rfl<|qD rfl rfl rfl<|qU rfl ‹_› rfl (Pt rfl rfl rfl rfl)<|qT rfl ‹_› rfl<|qA rfl<|Nl<|Wz ⟨.inl rfl,_,mt,Rc (Rt0 rfl) (Rv),aM,?_⟩
   exact ⟨rfl,rfl⟩
theorem notPort_any (p:Prt) (hp:PrtOk p):AFn Tryz.prog 186 0 [.agg (prtC p)] mt (.base (.bool false)) mt:=by
 refine AFn.eq Tryz.func186 rfl rfl (Nat.le_of_ble_eq_true rfl) ?_
 have h:=portE_any p hp
 refine Wq<|qW 0 2 rfl<|qC rfl<|qA rfl<|Nl<|Wq<|qW 6 10 rfl<|qG rfl ty157 rfl (Tl rfl)<|qY rfl (h) fok187 rfl<|qO rfl<|qA rfl<|Nl<|Wz ⟨.inl rfl,_,mt,Rc (Rt0 rfl) (Rv),aM,?_⟩
 exact ⟨rfl,rfl⟩
theorem indexF_any (ps:List Prt) (hl:ps.length≤1000) (hp:∀ p,p∈ps→PrtOk p):AFn Tryz.prog 200 0 [.isl (prtsC ps) ps.length,.base (.func (.func 186) #[] #[])] mt (.base (.int .i64 (-1))) mt:=by
 refine AFn.eq Tryz.func200 rfl rfl (Nat.le_of_ble_eq_true rfl)<|Wq<|qW 0 1 rfl<|qA rfl<|Nl<|Wq<|Wq<|qW 5 8 rfl<|qM rfl<|qH rfl ty148<|qM rfl<|Nl<|Wb<|W.rename [] 0 (T':=up (up (up (up mt 0 (some (.isl (prtsC ps) ps.length))) 1 (some (.base (.func (.func 186) #[] #[])))) 7 (some (.base (.int .i64 (ps.length:Int))))) 8 (some (.base (.int .i64 (0:Int))))) (H':=mt) (by decide) ?_ ?_ ?_
 ·exact aU (lR rfl) (aU (lR rfl) (aU (lR rfl) (aU (lR rfl) aM)))
 ·exact aM
 refine W.loop_ind (α:=Nat) (fun x=>ps.length - x) 0 (fun x=>up (up (up (up mt 0 (some (.isl (prtsC ps) ps.length))) 1 (some (.base (.func (.func 186) #[] #[])))) 7 (some (.base (.int .i64 (ps.length:Int))))) 8 (some (.base (.int .i64 (x:Int))))) (fun x=>mt) (fun x=>x≤ps.length) 0 (show 0≤ps.length from Nat.zero_le _) ?_
 rintro i hIA ihA
 try (dsimp only at hIA)
 try dsimp only
 by_cases hc:i < ps.length
 ·have g1:decide ((i:Int) < (ps.length:Int))=true:=decide_eq_true (by omega)
  have hn:=notPort_any ps[i] (hp _ (List.getElem_mem hc))
  refine Wq<|qW 12 13 rfl<|qK rfl<|Nl<|Wq<|Wt rfl ‹_›<|Wu<|Wq<|Wb<|Wq<|qW 17 19 rfl<|qM rfl<|qA rfl<|Nl<|Wq<|qW 23 29 rfl<|qM rfl<|qM rfl<|qM rfl<|qJ rfl rfl ty148 ty157 (by omega)<|Od rfl rfl (Lg rfl rfl ty157 rfl (prts_tk hc))<|Od rfl rfl (LO.callF (fr:=[]) rfl rfl hn fok186 (.cons rfl (.pure rfl) .nil) rfl)<|Nl<|Wo rfl rfl<|Wu<|qW 39 41 rfl<|qZ rfl (iW _ (by omega))<|qM rfl<|Nl<|WL.rename [] 0 (by decide) ?_ ?_ (ihA (i + 1) (show ps.length - (i + 1) < ps.length - i from by omega) (show (i + 1)≤ps.length from by omega))
  ·exact aU (lR rfl) (aU (lR rfl) (aU (lR rfl) (aU (lR rfl) aM)))
  ·exact aM
 ·have g1:decide ((i:Int) < (ps.length:Int))=false:=decide_eq_false (by omega)
  refine Wq<|qW 12 13 rfl<|qK rfl<|Nl<|Wq<|Wo rfl ‹_›<|Wx<|Wq<|qW 45 46 rfl<|qA rfl<|Nl<|Wz ⟨.inl rfl,_,mt,Rc (Rt0 rfl) (Rv),aM,?_⟩
  exact ⟨rfl,rfl⟩
theorem containsF_any (ps:List Prt) (hl:ps.length≤1000) (hp:∀ p,p∈ps→PrtOk p):AFn Tryz.prog 185 0 [.isl (prtsC ps) ps.length,.base (.func (.func 186) #[] #[])] mt (.base (.bool false)) mt:=by
 refine AFn.eq Tryz.func185 rfl rfl (Nat.le_of_ble_eq_true rfl) ?_
 have h:=indexF_any ps hl hp
 refine Wq<|qW 0 1 rfl<|qA rfl<|Nl<|Wq<|qW 5 10 rfl<|qM rfl<|qM rfl<|qY rfl (h) fok200 rfl<|qGe rfl<|qA rfl<|Nl<|Wz ⟨.inl rfl,_,mt,Rc (Rt0 rfl) (Rv),aM,?_⟩
 exact ⟨rfl,rfl⟩
def setB (L:List Nat):List AV:=(List.range 256).map fun c=>.base (.bool (decide (c∈L)))
theorem setB_len (L:List Nat):(setB L).length=256:=by simp [setB]
theorem setB_pure (L:List Nat):(setB L).all AV.pure1=true:=by
 unfold setB
 rw [List.all_eq_true]
 intro x hx
 obtain ⟨c,_,rfl⟩:=List.mem_map.1 hx
 rfl
theorem setB_ne (L:List Nat):setB L≠[]:=fun e=>by have:=setB_len L;rw [e] at this;cases this
theorem setB_at {L:List Nat} {c:Nat} (h:c < 256):(setB L)[0 + c * 1]?=some (.base (.bool (decide (c∈L)))):=by
 rw [Nat.zero_add,Nat.mul_one]
 unfold setB
 rw [List.getElem?_map,List.getElem?_range h]
 rfl
theorem setB_add (L:List Nat) {c:Nat} (_h:c < 256):(setB L).set (0 + c * 1) (.base (.bool true))=setB (c::L):=by
 rw [Nat.zero_add,Nat.mul_one]
 apply List.ext_getElem?
 intro i
 rw [List.getElem?_set]
 unfold setB
 rw [List.getElem?_map,List.getElem?_map,List.length_map,List.length_range]
 by_cases hi:i < 256
 ·rw [List.getElem?_range hi]
  by_cases e:c=i
  ·subst e
   rw [if_pos rfl,if_pos hi]
   simp
  ·rw [if_neg e]
   have:(i∈c::L)↔i∈L:=by rw [List.mem_cons];exact ⟨fun h=>h.elim (fun h=>absurd h.symm e) id,.inr⟩
   show some (AV.base (.bool (decide (i∈L))))=some (AV.base (.bool (decide (i∈c::L))))
   rw [decide_eq_decide.2 this]
 ·rw [List.getElem?_eq_none (by simp;omega)]
  by_cases e:c=i
  ·omega
  ·rw [if_neg e]
   rfl
theorem ty235:TyOK Tryz.prog 235 (.arr 256 4) 256 256 (setB []):=by unfold TyOK;kernel_rfl
theorem inSet_any (L:List Nat) (c:Nat) (hc:c < 256):AFn Tryz.prog 213 1 [.own 0 0,.base (.int .u8 (c:Int))] (up mt 0 (some (setB L))) (.base (.bool (decide (c∈L)))) (up mt 0 (some (setB L))):=by
 refine AFn.eq Tryz.func213 rfl rfl (Nat.le_of_ble_eq_true rfl)<|Wq<|qW 1 2 rfl<|qA rfl<|Nl<|Wq<|qW 6 12 rfl<|qM rfl<|qM rfl<|Od rfl rfl (Nc rfl rfl)<|Od rfl rfl (Ir rfl rfl rfl rfl ty235 ty4 (by omega))<|Od rfl rfl (Ld rfl rfl rfl (setB_at hc) ty4 rfl)<|qA rfl<|Nl<|Wz ⟨.inl rfl,_,up mt 0 (some (setB L)),(Rc (Rt0 rfl) Rv),(aU rfl aM),?_⟩
 exact ⟨rfl,rfl⟩
def namL:List Nat:=[97,98,99,100,101,102,103,104,105,106,107,108,109,110,111,112,113,114,115,116,117,118,119,120,121,122,65,66,67,68,69,70,71,72,73,74,75,76,77,78,79,80,81,82,83,84,85,86,87,88,89,90,48,49,50,51,52,53,54,55,56,57,45,58]
def namS:ByteArray:=⟨#[97,98,99,100,101,102,103,104,105,106,107,108,109,110,111,112,113,114,115,116,117,118,119,120,121,122,65,66,67,68,69,70,71,72,73,74,75,76,77,78,79,80,81,82,83,84,85,86,87,88,89,90,48,49,50,51,52,53,54,55,56,57,45,58]⟩
theorem cut_at:∀ i:Fin 64,namS[i.val]?=some (UInt8.ofNat (namL.getD i.val 0))∧namL.getD i.val 0 < 128∧namL.take (i.val + 1)=namL.take i.val++[namL.getD i.val 0]:=by decide +kernel
set_option maxRecDepth 20000 in
set_option maxHeartbeats 1000000 in
theorem makeSet_any:AFn Tryz.prog 207 0 [.base (.string namS)] mt (.tup [.agg (setB namL.reverse),.base (.bool true)]) mt:=by
 refine AFn.eq Tryz.func207 rfl rfl (Nat.le_of_ble_eq_true rfl) ?_
 have hsz:namS.size=64:=rfl
 have hcl:namL.length=64:=rfl
 have hca:=cut_at
 generalize namS=S at *
 generalize hC:namL=C at *
 clear hC
 refine Wq<|qW 0 2 rfl<|qB rfl ty235<|qA rfl<|Nl<|Wq<|Wq<|qW 6 7 rfl<|qA rfl<|Nl ?_
 rw [show setB []=setB (C.take 0).reverse from rfl]
 refine Wb<|W.rename [(0,0)] 1 (T':=up (up (up mt 0 (some (.base (.string S)))) 2 (some (.own 0 0))) 4 (some (.base (.int .i64 (0:Int))))) (H':=up mt 0 (some (setB (C.take 0).reverse))) (by decide) ?_ ?_ ?_
 ·exact aU (lR rfl) (aU (lI rfl) (aU (lR rfl) aM))
 ·exact aU (kR rfl) aM
 refine W.loop_ind (α:=Nat) (fun x=>S.size - x) 1 (fun x=>up (up (up mt 0 (some (.base (.string S)))) 2 (some (.own 0 0))) 4 (some (.base (.int .i64 (x:Int))))) (fun x=>up mt 0 (some (setB (C.take x).reverse))) (fun x=>x≤S.size) 0 (show 0≤S.size from Nat.zero_le _) ?_
 rintro i hIA ihA
 try (dsimp only at hIA)
 try dsimp only
 by_cases hc:i < S.size
 ·have g1:decide ((i:Int) < (S.size:Int))=true:=decide_eq_true (by omega)
  obtain ⟨c1,c2,c3⟩:=hca ⟨i,by omega⟩
  dsimp only at c1 c2 c3
  generalize C.getD i 0=c at *
  have hcn:((UInt8.ofNat c).toNat:Int)=(c:Int):=by rw [UInt8.toNat_ofNat'];omega
  have g2:decide ((128:Int)≤(c:Int))=false:=decide_eq_false (by omega)
  have hsp:Sp (setB (C.take i).reverse) (0 + c * 1) [.base (.bool true)] (setB (c::(C.take i).reverse)):=by
   rw [← setB_add _ (show c < 256 by omega)]
   exact Sp.set _ _ _ (by rw [setB_len];omega)
  refine Wq<|Wq<|qW 11 15 rfl<|qM rfl<|qM rfl<|Od rfl rfl (LO.len_str rfl rfl ty9)<|qK rfl<|Nl<|Wt rfl ‹_›<|Wu<|Wq<|Wb<|Wq<|qW 19 23 rfl<|qM rfl<|qM rfl<|Od rfl rfl (LO.indexStr rfl rfl rfl rfl ty9 c1)<|qA rfl<|Nl ?_
  rw [hcn]
  refine Wq<|Wq<|qW 27 29 rfl<|qM rfl<|qGe rfl<|Nl<|Wo rfl ‹_›<|Wu<|qW 40 43 rfl<|qM rfl<|Od rfl rfl (Ir rfl rfl rfl rfl ty235 ty4 (by omega))<|qS rfl ty4 hsp rfl<|Nl<|qW 47 50 rfl<|qM rfl<|qZ rfl (iW _ (by omega))<|qA rfl<|Nl ?_
  rw [show setB (c::(C.take i).reverse)=setB (C.take (i + 1)).reverse from by rw [c3,List.reverse_append];rfl]
  refine WL.rename [(0,0)] 1 (by decide) ?_ ?_ (ihA (i + 1) (show S.size - (i + 1) < S.size - i from by omega) (show (i + 1)≤S.size from by omega))
  ·exact aU (lR rfl) (aU (lI rfl) (aU (lR rfl) aM))
  ·exact aU (kR rfl) aM
 ·have g1:decide ((i:Int) < (S.size:Int))=false:=decide_eq_false (by omega)
  have e:C.take i=C:=List.take_of_length_le (by omega)
  rw [e]
  refine Wq<|Wq<|qW 11 15 rfl<|qM rfl<|qM rfl<|Od rfl rfl (LO.len_str rfl rfl ty9)<|qK rfl<|Nl<|Wo rfl ‹_›<|Wx<|Wq<|qW 54 57 rfl<|qG rfl ty235 rfl (Tl rfl)<|qS rfl ty235 (Sl rfl) rfl<|qA rfl<|Nl<|Wz ⟨.inl rfl,_,mt,(Rc (Ra0 rfl rfl ty235 rfl (show Tk (setB C.reverse) 0 256 (setB C.reverse) from by have:=Tk.all (setB C.reverse);rwa [setB_len] at this)) (Rc (Rt0 rfl) Rv)),aM,?_⟩
  exact ⟨rfl,rfl⟩
theorem ext_size {s:ByteArray} {n:Nat} (h:n≤s.size):(s.extract 0 n).size=n:=by
 rw [ByteArray.size_extract];omega
theorem ext_at {s:ByteArray} {n i:Nat} (h:n≤s.size) (hi:i < n):(s.extract 0 n)[i]?=s[i]?:=by
 rw [getElem?_pos (s.extract 0 n) i (by rw [ext_size h];exact hi),getElem?_pos s i (by omega)]
 congr 1
 rw [ByteArray.getElem_extract]
 congr 1
 omega
set_option maxRecDepth 20000 in
set_option maxHeartbeats 1000000 in
theorem trimR_any (L:List Nat) (s:ByteArray) (hs:s.size≤1000) (hin:∀ i,i < s.size→∃ b,s[i]?=some b∧b.toNat∈L):AFn Tryz.prog 209 1 [.base (.string s),.own 0 0] (up mt 0 (some (setB L))) (.base (.string (s.extract 0 0))) (up mt 0 (some (setB L))):=by
 refine AFn.eq Tryz.func209 rfl rfl (Nat.le_of_ble_eq_true rfl)<|Wq<|qW 1 2 rfl<|qA rfl<|Nl<|Wq<|Wb<|W.rename [(0,0)] 1 (T':=up (up mt 0 (some (.base (.string s)))) 1 (some (.own 0 0))) (H':=up mt 0 (some (setB L))) (by decide) ?_ ?_ ?_
 ·exact aU (lI rfl) (aU (lR rfl) aM)
 ·exact aU (kR rfl) aM
 refine W.loop_ind (α:=Nat × ByteArray) (fun x=>x.1) 1 (fun x=>up (up mt 0 (some (.base (.string x.2)))) 1 (some (.own 0 0))) (fun x=>up mt 0 (some (setB L))) (fun x=>x.1≤s.size∧x.2=s.extract 0 x.1) (s.size,s) (show s.size≤s.size∧s=s.extract 0 s.size from ⟨Nat.le_refl _,by simp⟩) ?_
 rintro ⟨n,z⟩ hIA ihA
 try (dsimp only at hIA)
 try dsimp only
 obtain ⟨hIA,hzz⟩:=hIA
 have hz:=ext_size hIA
 by_cases hc:0 < n
 ·have g1:decide ((0:Int) < ((s.extract 0 n).size:Int))=true:=decide_eq_true (by omega)
  obtain ⟨b,hb,hm⟩:=hin (n - 1) (by omega)
  have hb2:(s.extract 0 n)[n - 1]?=some b:=by rw [ext_at hIA (by omega)];exact hb
  have hi:=inSet_any L b.toNat b.toNat_lt
  rw [decide_eq_true hm] at hi
  have hx:(s.extract 0 n).extract 0 (n - 1)=s.extract 0 (n - 1):=by rw [ByteArray.extract_extract];congr 1<;>omega
  have hk:((s.extract 0 n).size:Int) - 1=((n - 1:Nat):Int):=by omega
  rw [← hzz] at g1 hb2 hx hk hz
  refine Wq<|Wq<|qW 6 9 rfl<|qM rfl<|Od rfl rfl (LO.len_str rfl rfl ty9)<|qGt rfl<|Nl<|Wt rfl ‹_›<|Wu<|Wb<|Wq<|Wq<|qW 13 21 rfl<|qM rfl<|qM rfl<|qM rfl<|Od rfl rfl (LO.len_str rfl rfl ty9)<|Od rfl rfl (LO.sub_in rfl rfl rfl (iW _ (by omega)))<|Od rfl rfl (LO.indexStr rfl rfl rfl hk ty9 hb2)<|Od rfl rfl (C1 (fr:=[]) rfl rfl hi fok213 (.own rfl rfl (.cons rfl (.pure rfl) .nil)) rfl (setB_pure _) (setB_pure _) (setB_ne _) (by decide) rfl)<|qO rfl<|Nl<|Wo rfl rfl<|Wu<|qW 25 31 rfl<|qM rfl<|qM rfl<|Od rfl rfl (LO.len_str rfl rfl ty9)<|Od rfl rfl (LO.sub_in rfl rfl rfl (iW _ (by omega)))<|Od rfl rfl (LO.slice_str rfl rfl Bnd.no (Ba rfl hk) (by omega) (by omega) ty9)<|qA rfl<|Nl<|WL.rename [(0,0)] 1 (by decide) ?_ ?_ (ihA ((n - 1),(z.extract 0 (n - 1))) (show (n - 1) < n from by omega) (show (n - 1)≤s.size∧(z.extract 0 (n - 1))=s.extract 0 (n - 1) from ⟨by omega,hx⟩))
  ·exact aU (lI rfl) (aU (lR rfl) aM)
  ·exact aU (kR rfl) aM
 ·have g1:decide ((0:Int) < ((s.extract 0 n).size:Int))=false:=decide_eq_false (by omega)
  obtain rfl:n=0:=by omega
  rw [← hzz] at g1
  subst hzz
  refine Wq<|Wq<|qW 6 9 rfl<|qM rfl<|Od rfl rfl (LO.len_str rfl rfl ty9)<|qGt rfl<|Nl<|Wo rfl ‹_›<|Wx<|Wq<|qW 35 37 rfl<|qM rfl<|qA rfl<|Nl<|Wz ⟨.inl rfl,_,up mt 0 (some (setB L)),(Rc (Rt0 rfl) Rv),(aU rfl aM),?_⟩
  exact ⟨rfl,rfl⟩
set_option maxRecDepth 20000 in
theorem trimL_any (L:List Nat) (z:ByteArray) (hz:z.size=0):AFn Tryz.prog 208 1 [.base (.string z),.own 0 0] (up mt 0 (some (setB L))) (.base (.string z)) (up mt 0 (some (setB L))):=by
 refine AFn.eq Tryz.func208 rfl rfl (Nat.le_of_ble_eq_true rfl) ?_
 have g1:decide ((0:Int) < (z.size:Int))=false:=decide_eq_false (by omega)
 refine Wq<|qW 1 2 rfl<|qA rfl<|Nl<|Wq<|Wb<|W.rename [(0,0)] 1 (T':=up (up mt 0 (some (.base (.string z)))) 1 (some (.own 0 0))) (H':=up mt 0 (some (setB L))) (by decide) ?_ ?_ ?_
 ·exact aU (lI rfl) (aU (lR rfl) aM)
 ·exact aU (kR rfl) aM
 refine W.loop_ind (α:=Nat) (fun x=>x) 1 (fun x=>up (up mt 0 (some (.base (.string z)))) 1 (some (.own 0 0))) (fun x=>up mt 0 (some (setB L))) (fun x=>True) 0 (show True from trivial) ?_
 rintro n hIA ihA
 try (dsimp only at hIA)
 try dsimp only
 refine Wq<|Wq<|qW 6 9 rfl<|qM rfl<|Od rfl rfl (LO.len_str rfl rfl ty9)<|qGt rfl<|Nl<|Wo rfl ‹_›<|Wx<|Wq<|qW 29 31 rfl<|qM rfl<|qA rfl<|Nl<|Wz ⟨.inl rfl,_,up mt 0 (some (setB L)),(Rc (Rt0 rfl) Rv),(aU rfl aM),?_⟩
 exact ⟨rfl,rfl⟩
set_option maxRecDepth 20000 in
set_option maxHeartbeats 1000000 in
theorem trim_any (s:ByteArray) (h1:1≤s.size) (hs:s.size≤1000) (hin:∀ i,i < s.size→∃ b,s[i]?=some b∧b.toNat∈namL.reverse):AFn Tryz.prog 199 0 [.base (.string s),.base (.string namS)] mt (.base (.string (s.extract 0 0))) mt:=by
 refine AFn.eq Tryz.func199 rfl rfl (Nat.le_of_ble_eq_true rfl) ?_
 have k1:(s.toList == (⟨#[]⟩:ByteArray).toList)=false:=by
  have hne:s.toList≠(⟨#[]⟩:ByteArray).toList:=fun e=>by
   have:=congrArg List.length e
   rw [show (⟨#[]⟩:ByteArray).toList.length=0 from by decide +kernel] at this
   have h2:s.toList.length=s.size:=by rw [ByteArray.toList_eq,Array.length_toList];rfl
   omega
  simpa using hne
 have k2:(namS.toList == (⟨#[]⟩:ByteArray).toList)=false:=by decide +kernel
 have k3:namS.size=64:=by decide +kernel
 have hmk:=makeSet_any
 have hr:=trimR_any namL.reverse s hs hin
 have hl:=trimL_any namL.reverse (s.extract 0 0) (ext_size (Nat.zero_le _))
 generalize namL.reverse=L at *
 generalize namS=S at *
 have k4:((S.size:Int) == 1)=false:=by rw [k3];rfl
 refine Wq<|qW 0 1 rfl<|qA rfl<|Nl<|Wq<|Wq<|qW 5 11 rfl<|qM rfl<|Od rfl rfl (LO.eql_str rfl rfl rfl)<|qM rfl<|gM rfl ‹_›<|qU rfl ‹_› rfl (LO.eql_str rfl rfl rfl)<|qP rfl ‹_› rfl<|Nl<|Wo rfl ‹_›<|Wu<|Wq<|Wq<|qW 21 29 rfl<|qM rfl<|Od rfl rfl (LO.len_str rfl rfl ty9)<|qE rfl<|qM rfl<|qD rfl ‹_› rfl<|qD rfl ‹_› rfl<|qD rfl ‹_› rfl<|qP rfl ‹_› rfl<|Nl<|Wo rfl rfl<|Wu<|Wq<|Wq<|qW 45 53 rfl<|qM rfl<|qY rfl (hmk) fok207 rfl<|qM rfl<|qX rfl<|qX rfl<|qB rfl ty235<|On rfl rfl (Sr rfl rfl rfl rfl rfl ty235 (setB_len _) (by decide) (sp_all ((setB_len L).trans (setB_len []).symm)))<|qA rfl<|Nl<|Wq<|qW 57 58 rfl<|qM rfl<|Nl<|Wt rfl rfl<|Wq<|qW 62 66 rfl<|qM rfl<|Od rfl rfl (C1 (fr:=[]) rfl rfl hr fok209 (.cons rfl (.pure rfl) (.own rfl rfl .nil)) rfl (setB_pure _) (setB_pure _) (setB_ne _) (by decide) rfl)<|Od rfl rfl (C1 (fr:=[]) rfl rfl hl fok208 (.cons rfl (.pure rfl) (.own rfl rfl .nil)) rfl (setB_pure _) (setB_pure _) (setB_ne _) (by decide) rfl)<|qA rfl<|Nl<|Wz ⟨.inl rfl,_,mt,Rc (Rt0 rfl) (Rv),aM,?_⟩
 exact ⟨rfl,rfl⟩
theorem okC_mem:∀ c:Fin 256,((97≤c.val∧c.val≤122)∨(65≤c.val∧c.val≤90)∨(48≤c.val∧c.val≤57)∨c.val=45∨c.val=58)→c.val∈namL.reverse:=by decide +kernel
theorem NameOk.inS {s:ByteArray} (h:NameOk s):∀ i,i < s.size→∃ b,s[i]?=some b∧b.toNat∈namL.reverse:=fun i hi=>by
 have e:s[i]?=some s[i]:=getElem?_pos s i hi
 have hc:=h.ch i _ e
 refine ⟨_,e,okC_mem ⟨s[i].toNat,s[i].toNat_lt⟩ ?_⟩
 unfold okC at hc
 dsimp only
 omega
theorem named_any (s:ByteArray) (h:NameOk s):AFn Tryz.prog 184 0 [.base (.string s)] mt (.base (.bool true)) mt:=by
 refine AFn.eq Tryz.func184 rfl rfl (Nat.le_of_ble_eq_true rfl) ?_
 have ht:=trim_any s h.lo (by have:=h.hi;omega) h.inS
 have hw:=mwithin_yes (n:=(s.size:Int)) (l:=1) (h:=32) (by have:=h.lo;omega) (by have:=h.hi;omega)
 have k1:((s.extract 0 0).toList == (⟨#[]⟩:ByteArray).toList)=true:=by
  have e:s.extract 0 0=⟨#[]⟩:=by
   apply ByteArray.ext
   apply Array.eq_empty_of_size_eq_zero
   exact ext_size (Nat.zero_le _)
  rw [e]
  decide +kernel
 generalize s.extract 0 0=z at *
 refine Wq<|qW 0 1 rfl<|qA rfl<|Nl<|Wq<|qW 5 8 rfl<|qM rfl<|qY rfl (ht) fok199 rfl<|qA rfl<|Nl<|Wq<|qW 12 20 rfl<|qM rfl<|Od rfl rfl (LO.len_str rfl rfl ty9)<|qY rfl (hw) fok182 rfl<|qM rfl<|gM rfl rfl<|qU rfl rfl rfl (LO.eql_str rfl rfl rfl)<|qT rfl rfl rfl<|qA rfl<|Nl<|Wz ⟨.inl rfl,_,mt,Rc (Rt0 rfl) (Rv),aM,?_⟩
 exact ⟨by rw [k1];rfl,rfl⟩
end Go.Proofs.YtlcndmciognneaaGreatDoor
