/-
  The registry that is drawn. The listed variables hold what the abstract machine says they hold; a variable that is named only holds some number; lists of numbers, as they come in. What the document's making of a prefix gives for any length; what objects permit is what a table of them says. Clearing a slice that is owned. Maps whose values are records that are only read: made, written at new keys, asked. Maps whose entries are known in their order: written; their keys handed over, and sorted. The library's contracts on the keys of maps, sorted, laid at this program. The keys of a map of numbers, and of one of texts, sorted.
-/
import Derived.Test.YtndbhhgmpjjjhaaGreatDoorVD
import Derived.Test.YtndbhhgmpjjjhaaGreatDoorMab
import Derived.Test.YtndbhhgmpjjjhaaGreatDoorGt
import Derived.Test.YtndbhhgmpjjjhaaGreatDoorQf
import Derived.Test.YtndbhhgmpjjjhaaGreatDoorCards
import Derived.Test.YtndbhhgmpjjjhaaGreatDoorTie
import Derived.SevenTiedAt
import Derived.LaidMore
import Derived.LaidHandle
import Derived.OpenShut
import Derived.Lay
import Derived.Shelf.Vars
import Derived.Test.YtndbhhgmpjjjhaaGreatDoorVw
import Derived.Shelf.SlIterI.Sorted
import Derived.Shelf.SlIter.Sorted
import Derived.Shelf.SortM.Plain
import Derived.Shelf.SortM.SortNone
import Derived.Shelf.SlLaysZI
import Derived.Shelf.SlLaysZ
import Derived.Shelf.SlLaysM
namespace Go.Proofs.YtndbhhgmpjjjhaaGreatDoor
open Go.RowKit
def intsC (l:List Int):List AV:=l.map fun z=>.base (.int .i64 z)
theorem intsC_len (l:List Int):(intsC l).length=l.length:=by simp [intsC]
theorem intsC_pure (l:List Int):(intsC l).all AV.pure1=true:=by
 induction l with
 | nil=>rfl
 | cons x l ih=>exact ih
theorem ints_tk {l:List Int} {n:Nat} (h:l.length=n):Tk (intsC l) 0 (n * 1) (intsC l):=by
 rw [Nat.mul_one,← h,← intsC_len l];exact Tk.all _
def asN:Nat→ByteArray
 | 0=>⟨#[65,83,45,65]⟩
 | 1=>⟨#[65,83,45,66]⟩
 | 2=>⟨#[65,83,45,67]⟩
 | 3=>⟨#[65,83,45,68]⟩
 | _=>⟨#[65,83,45,69]⟩
structure SetR where
 k:Nat
 asns:List Int
 sets:List Nat
def strsC (l:List Nat):List AV:=l.map fun j=>.base (.string (asN j))
def setC (s:SetR):List AV:=[.base (.string (asN s.k)),.isl (intsC s.asns) s.asns.length,.isl (strsC s.sets) s.sets.length]
def setsC (l:List SetR):List AV:=l.flatMap setC
def regC (ss:List SetR) (os:List ObjR):List AV:=[.isl (setsC ss) ss.length,.isl (objsC os) os.length]
structure SetOk (s:SetR):Prop where
 al:s.asns.length≤3
 a:∀ x∈s.asns,1≤x∧x≤6
 sl:s.sets.length≤3
 s:∀ j∈s.sets,j < 5
structure SetsOk (ss:List SetR):Prop where
 len:ss.length≤4
 ok:∀ s∈ss,SetOk s
 k:∀ (i:Nat) s,ss[i]?=some s→s.k=i
structure ObjsOk (os:List ObjR):Prop where
 len:os.length≤11
 ok:∀ o∈os,ObjOk o
theorem strsC_pure (l:List Nat):(strsC l).all AV.pure1=true:=by
 induction l with
 | nil=>rfl
 | cons x l ih=>exact ih
theorem strsC_len (l:List Nat):(strsC l).length=l.length:=by simp [strsC]
theorem setsC_pure (l:List SetR):(setsC l).all AV.pure1=true:=by
 induction l with
 | nil=>rfl
 | cons x l ih =>
  rw [show setsC (x::l)=setC x++setsC l from rfl,List.all_append,ih]
  rfl
theorem setsC_app (a b:List SetR):setsC (a++b)=setsC a++setsC b:=by simp [setsC]
theorem setsC_len (l:List SetR):(setsC l).length=l.length * 3:=by
 induction l with
 | nil=>rfl
 | cons x l ih=>rw [show setsC (x::l)=setC x++setsC l from rfl,List.length_append,ih];simp [setC];omega
theorem objsC_app (a b:List ObjR):objsC (a++b)=objsC a++objsC b:=by simp [objsC]
theorem strs_tk {l:List Nat} {n:Nat} (h:l.length=n):Tk (strsC l) 0 (n * 1) (strsC l):=by
 rw [Nat.mul_one,← h,← strsC_len l];exact Tk.all _
theorem sets_all {l:List SetR} {n:Nat} (h:l.length=n):Tk (setsC l) 0 (n * 3) (setsC l):=by
 rw [← h,← setsC_len l];exact Tk.all _
theorem objs_all {l:List ObjR} {n:Nat} (h:l.length=n):Tk (objsC l) 0 (n * 6) (objsC l):=flatAll (c:=objC) (fun _=>rfl) h
theorem objsC_pure (l:List ObjR):(objsC l).all AV.pure1=true:=by
 induction l with
 | nil=>rfl
 | cons x l ih =>
  rw [show objsC (x::l)=objC x++objsC l from rfl,List.all_append,ih]
  rfl
def nms:List AV:=[.base (.string ⟨#[65,83,45,65]⟩),.base (.string ⟨#[65,83,45,66]⟩),.base (.string ⟨#[65,83,45,67]⟩),.base (.string ⟨#[65,83,45,68]⟩),.base (.string ⟨#[65,83,45,69]⟩)]
theorem nms_at {j:Nat} (h:j < 5):nms[0 + j * 1]?=some (.base (.string (asN j))):=by
 match j,h with
 | 0,_=>rfl
 | 1,_=>rfl
 | 2,_=>rfl
 | 3,_=>rfl
 | 4,_=>rfl
theorem SetsOk.nil:SetsOk []:=⟨Nat.zero_le _,fun s h=>(by cases h),fun i s h=>(by simp at h)⟩
theorem SetsOk.snoc {ss:List SetR} {k:Nat} {as_:List Int} {sl:List Nat} (h:SetsOk ss) (hk:ss.length=k) (h4:k < 4) (ho:SetOk ⟨k,as_,sl⟩):SetsOk (ss++[⟨k,as_,sl⟩]):=by
 refine ⟨by simp;omega,fun s hs=>?_,fun i s hi=>?_⟩
 ·rcases List.mem_append.1 hs with h1|h1
  ·exact h.ok s h1
  ·rw [List.mem_singleton] at h1;subst h1;exact ho
 ·rcases Nat.lt_trichotomy i ss.length with h1|h1|h1
  ·rw [List.getElem?_append_left h1] at hi;exact h.k i s hi
  ·rw [h1,List.getElem?_concat_length] at hi;injection hi with hi;subst hi;show k=i;omega
  ·rw [List.getElem?_eq_none (by simp;omega)] at hi;cases hi
theorem ints_snocR (as_:List Int) (a:Int):intsC as_++[AV.base (.int .i64 a)]=intsC (as_++[a]):=by simp [intsC]
theorem strs_snocR (l:List Nat) (j:Nat):strsC l++[AV.base (.string (asN j))]=strsC (l++[j]):=by simp [strsC]
theorem memR {α:Type} {p:α→Prop} {l:List α} {a:α} (h:∀ x∈l,p x) (ha:p a):∀ x∈l++[a],p x:=fun x hx=>by
 rcases List.mem_append.1 hx with h1|h1
 ·exact h x h1
 ·rw [List.mem_singleton] at h1;subst h1;exact ha
theorem nextC (l:List Int) (a:Nat) (n:Int) (h:1≤n) (h2:n≤9223372036854775807) (hl:l.length≤9223372036854775807):∃ x b:Nat,(x:Int) < n∧AFn Tryz.prog 12 1 [.own 0 0,.base (.int .i64 n)] (up mt 0 (some (deckC l a))) (.base (.int .i64 (x:Int))) (up mt 0 (some (deckC l b))):=by
 have hb:=nextV_bd l a n h
 have h1:=next_any l a n h h2 hl
 obtain ⟨x,hx⟩:∃ x:Nat,nextV l a n=(x:Int):=⟨(nextV l a n).toNat,by omega⟩
 rw [hx] at h1 hb
 exact ⟨x,_,hb.2,h1⟩
set_option maxHeartbeats 2000000 in
theorem registry_any (l:List Int) (at_:Nat) (hl:l.length≤9223372036854775807) :
 ∃ v H',AFn Tryz.prog 6 1 [.own 0 0] (up mt 0 (some (deckC l at_))) v H'∧∃ (ss:List SetR) (os:List ObjR) (at':Nat),(SetsOk ss∧ObjsOk os)∧v=.agg (regC ss os)∧H'=up mt 0 (some (deckC l at')):=by
 refine AFn.ex Tryz.func6 rfl rfl (Nat.le_of_ble_eq_true rfl) ?_
 obtain ⟨n0,a0,bn,hn⟩:=nextC l at_ 5 (by decide) (by decide) hl
 refine Wq<|qW 1 2 rfl<|qB rfl ty28<|Nl<|Wq<|qW 6 8 rfl<|Od rfl rfl (LO.buildSlice rfl ty55 ty9 (by decide) (by decide) (.cons rfl rfl rfl rfl (Sl rfl) (.cons rfl rfl rfl rfl (Sl rfl) (.cons rfl rfl rfl rfl (Sl rfl) (.cons rfl rfl rfl rfl (Sl rfl) (.cons rfl rfl rfl rfl (Sl rfl) .nil))))))<|qA rfl<|Nl<|Wq<|qW 12 13 rfl<|qB rfl ty28<|Nl<|Wq<|Wq<|qW 17 20 rfl<|qM rfl<|Od rfl rfl (C1 (fr:=[]) rfl rfl (hn) fok12 (.own rfl rfl (.cons rfl (.pure rfl) .nil)) rfl rfl rfl (Cn _ _) (by decide) rfl)<|qM rfl<|Nl<|Wb<|W.namec 20 (20 + 1) (q:=12) (j:=0) (sz:=3) rfl rfl (Sl rfl) (by decide) (by decide) (by decide)<|W.rename [(0,0),(1,1),(2,6),(3,12),(4,20)] 5 (T':=up (up (up (up (up (up mt 0 (some (.own 0 0))) 2 (some (.own 1 0))) 3 (some (.osl 2 0 5 1))) 4 (some (.own 3 0))) 12 (some (.base (.int .i64 (n0:Int))))) 13 (some (.base (.int .i64 (0:Int))))) (H':=up (up (up (up (up mt 0 (some (deckC l a0))) 1 (some ([.nils,.nils]))) 2 (some (nms))) 3 (some ([.osl 4 0 (([]:List SetR)).length 3,.nils]))) 4 (some (setsC (([]:List SetR))))) (by decide) ?_ ?_ ?_
 ·exact aU (lR rfl) (aU (lR rfl) (aU (lI rfl) (aU (lI rfl) (aU (lI rfl) (aU (lI rfl) aM)))))
 ·exact aU (kR rfl) (aU (kI rfl) (aU (kR rfl) (aU (kR rfl) (aU (kR rfl) aM))))
 refine W.loop_ind (α:=Nat × Nat × List SetR) (fun x=>n0 - x.1) 5 (fun x=>up (up (up (up (up (up mt 0 (some (.own 0 0))) 2 (some (.own 1 0))) 3 (some (.osl 2 0 5 1))) 4 (some (.own 3 0))) 12 (some (.base (.int .i64 (n0:Int))))) 13 (some (.base (.int .i64 (x.1:Int))))) (fun x=>up (up (up (up (up mt 0 (some (deckC l x.2.1))) 1 (some ([.nils,.nils]))) 2 (some (nms))) 3 (some ([.osl 4 0 x.2.2.length 3,.nils]))) 4 (some (setsC x.2.2))) (fun x=>x.1≤n0∧x.2.2.length=x.1∧SetsOk x.2.2) (0,a0,(([]:List SetR))) (show 0≤n0∧(([]:List SetR)).length=0∧SetsOk (([]:List SetR)) from ⟨Nat.zero_le _,rfl,SetsOk.nil⟩) ?_
 rintro ⟨k,a,ss⟩ hIA ihA
 try (dsimp only at hIA)
 try dsimp only
 obtain ⟨hk,hlen,hss⟩:=hIA
 have hs4:=hss.len
 by_cases hc:k < n0
 ·have g1:decide ((k:Int) < (n0:Int))=true:=decide_eq_true (by omega)
  have hkk:(k:Int) + 1=((k + 1:Nat):Int):=by omega
  have hk4:k < 4:=by omega
  have hnm:=nms_at (j:=k) (by omega)
  obtain ⟨n1,a1,bn1,hn1⟩:=nextC l a 4 (by decide) (by decide) hl
  refine Wq<|qW 24 25 rfl<|qK rfl<|Nl<|Wq<|Wt rfl ‹_›<|Wu<|Wq<|Wb<|Wq<|qW 29 31 rfl<|qM rfl<|qA rfl<|Nl<|Wq<|qW 35 42 rfl<|qM rfl<|qM rfl<|Od rfl rfl (Ia rfl rfl rfl rfl ty55 ty9 (by omega))<|Od rfl rfl (Ld rfl rfl rfl hnm ty9 rfl)<|Od rfl rfl (Bs rfl ty65 (.cons rfl rfl rfl rfl (Sl rfl) .nil))<|qB rfl ty65<|qS rfl ty65 (Sl rfl) rfl<|Nl<|Wq<|Wq<|qW 46 49 rfl<|qM rfl<|Od rfl rfl (C1 (fr:=[]) rfl rfl (hn1) fok12 (.own rfl rfl (.cons rfl (.pure rfl) .nil)) rfl rfl rfl (Cn _ _) (by decide) rfl)<|qA rfl<|Nl<|Wb<|W.namec 49 (49 + 1) (q:=40) (j:=1) (sz:=1) rfl rfl (Sl rfl) (by decide) (by decide) (by decide)<|W.namec (49 + 1) (49 + 2) (q:=40) (j:=2) (sz:=1) rfl rfl (Sl rfl) (by decide) (by decide) (by decide)<|W.rename [(0,0),(1,1),(2,2),(3,3),(4,4),(5,40),(6,49),(7,(49 + 1))] 8 (T':=up (up (up (up (up (up (up (up mt 0 (some (.own 0 0))) 2 (some (.own 1 0))) 3 (some (.osl 2 0 5 1))) 4 (some (.own 3 0))) 6 (some (.own 5 0))) 7 (some (.base (.int .i64 ((n1:Int)))))) 12 (some (.base (.int .i64 (n0:Int))))) 13 (some (.base (.int .i64 (k:Int))))) (H':=up (up (up (up (up (up (up (up mt 0 (some (deckC l a1))) 1 (some ([.nils,.nils]))) 2 (some (nms))) 3 (some ([.osl 4 0 ss.length 3,.nils]))) 4 (some (setsC ss))) 5 (some ([.base (.string (asN k)),.osl 6 0 (([]:List Int)).length 1,.osl 7 0 0 1]))) 6 (some (intsC (([]:List Int))))) 7 (some ([]))) (by decide) ?_ ?_ ?_
  ·exact aU (lR rfl) (aU (lR rfl) (aU (lR rfl) (aU (lI rfl) (aU (lI rfl) (aU (lI rfl) (aU (lI rfl) (aU (lI rfl) aM)))))))
  ·exact aU (kR rfl) (aU (kR rfl) (aU (kI rfl) (aU (kP rfl (setsC_pure _)) (aU (kI rfl) (aU (kR rfl) (aU (kR rfl) (aU (kR rfl) aM)))))))
  refine W.loop_ind (α:=Int × Nat × List Int) (fun x=>x.1.toNat) 8 (fun x=>up (up (up (up (up (up (up (up mt 0 (some (.own 0 0))) 2 (some (.own 1 0))) 3 (some (.osl 2 0 5 1))) 4 (some (.own 3 0))) 6 (some (.own 5 0))) 7 (some (.base (.int .i64 x.1)))) 12 (some (.base (.int .i64 (n0:Int))))) 13 (some (.base (.int .i64 (k:Int))))) (fun x=>up (up (up (up (up (up (up (up mt 0 (some (deckC l x.2.1))) 1 (some ([.nils,.nils]))) 2 (some (nms))) 3 (some ([.osl 4 0 ss.length 3,.nils]))) 4 (some (setsC ss))) 5 (some ([.base (.string (asN k)),.osl 6 0 x.2.2.length 1,.osl 7 0 0 1]))) 6 (some (intsC x.2.2))) 7 (some ([]))) (fun x=>(0≤x.1∧x.2.2.length + x.1≤3)∧∀ z∈x.2.2,1≤z∧z≤6) (((n1:Int)),a1,(([]:List Int))) (show (0≤((n1:Int))∧(([]:List Int)).length + ((n1:Int))≤3)∧∀ z∈(([]:List Int)),1≤z∧z≤6 from ⟨⟨by omega,by simp;omega⟩,fun x h=>absurd h List.not_mem_nil⟩) ?_
  rintro ⟨n,b,as_⟩ hIB ihB
  try (dsimp only at hIB)
  try dsimp only
  obtain ⟨⟨hn0,hn3⟩,has⟩:=hIB
  by_cases hcb:0 < n
  ·have g2:decide (n > 0)=true:=decide_eq_true hcb
   obtain ⟨x,b1,bx,hx⟩:=nextC l b 6 (by decide) (by decide) hl
   refine Wq<|Wq<|qW 53 55 rfl<|qM rfl<|qGt rfl<|Nl<|Wt rfl ‹_›<|Wu<|Wq<|Wb<|Wd 59 68 (by decide) rfl mixed rfl<|qF rfl ty65 rfl<|qL rfl ty22 rfl<|qM rfl<|Od rfl rfl (C1 (fr:=[]) rfl rfl (hx) fok12 (.own rfl rfl (.cons rfl (.pure rfl) .nil)) rfl rfl rfl (Cn _ _) (by decide) rfl)<|qZ rfl (iW _ (by omega))<|Od rfl rfl (LO.buildSlice rfl ty22 ty3 (by decide) (by decide) (.cons rfl rfl rfl rfl (Sl rfl) .nil))<|Od rfl rfl (Lap rfl rfl (Sso rfl rfl (Tl rfl)) rfl (ints_tk rfl) ty22 ty22 ty3 (by decide) (by omega) (by omega) (by decide))<|qF rfl ty65 rfl<|qS rfl ty22 (Sl rfl) rfl<|Nl ⟨by kernel_rfl,(qW 72 75 rfl<|qM rfl<|Od rfl rfl (LO.sub_in rfl rfl rfl (iW _ (by omega)))<|qA rfl<|Nl ?_)⟩
   rw [ints_snocR,show as_.length + 1=(as_++[1 + (x:Int)]).length from by simp]
   refine WL.rename [(0,0),(1,1),(2,2),(3,3),(4,4),(5,5),(6,65),(7,7)] 8 (by decide) ?_ ?_ (ihB ((n - 1),b1,(as_++[1 + (x:Int)])) (show (n - 1).toNat < n.toNat from by omega) (show (0≤(n - 1)∧(as_++[1 + (x:Int)]).length + (n - 1)≤3)∧∀ z∈(as_++[1 + (x:Int)]),1≤z∧z≤6 from ⟨⟨by omega,by simp;omega⟩,memR has ⟨by omega,by omega⟩⟩))
   ·exact aU (lR rfl) (aU (lR rfl) (aU (lR rfl) (aU (lI rfl) (aU (lI rfl) (aU (lI rfl) (aU (lI rfl) (aU (lI rfl) aM)))))))
   ·exact aU (kR rfl) (aU (kP rfl (intsC_pure _)) (aU (kI rfl) (aU (kP rfl (setsC_pure _)) (aU (kI rfl) (aU (kR rfl) (aU (kR rfl) (aU (kR rfl) aM)))))))
  ·have g2:decide (n > 0)=false:=decide_eq_false hcb
   obtain ⟨n2,a2,bn2,hn2⟩:=nextC l b 4 (by decide) (by decide) hl
   have has3:as_.length≤3:=by omega
   clear ihB
   refine Wq<|Wq<|qW 53 55 rfl<|qM rfl<|qGt rfl<|Nl<|Wo rfl ‹_›<|Wx<|Wq<|Wq<|qW 79 82 rfl<|qM rfl<|Od rfl rfl (C1 (fr:=[]) rfl rfl (hn2) fok12 (.own rfl rfl (.cons rfl (.pure rfl) .nil)) rfl rfl rfl (Cn _ _) (by decide) rfl)<|qA rfl<|Nl<|Wb<|W.rename [(0,0),(1,1),(2,2),(3,3),(4,4),(5,5),(6,6),(7,7)] 8 (T':=up (up (up (up (up (up (up (up mt 0 (some (.own 0 0))) 2 (some (.own 1 0))) 3 (some (.osl 2 0 5 1))) 4 (some (.own 3 0))) 6 (some (.own 5 0))) 8 (some (.base (.int .i64 ((n2:Int)))))) 12 (some (.base (.int .i64 (n0:Int))))) 13 (some (.base (.int .i64 (k:Int))))) (H':=up (up (up (up (up (up (up (up mt 0 (some (deckC l a2))) 1 (some ([.nils,.nils]))) 2 (some (nms))) 3 (some ([.osl 4 0 ss.length 3,.nils]))) 4 (some (setsC ss))) 5 (some ([.base (.string (asN k)),.osl 6 0 as_.length 1,.osl 7 0 (([]:List Nat)).length 1]))) 6 (some (intsC as_))) 7 (some (strsC (([]:List Nat))))) (by decide) ?_ ?_ ?_
   ·exact aU (lR rfl) (aU (lR rfl) (aU (lR rfl) (aU (lI rfl) (aU (lI rfl) (aU (lI rfl) (aU (lI rfl) (aU (lI rfl) aM)))))))
   ·exact aU (kR rfl) (aU (kP rfl (intsC_pure _)) (aU (kI rfl) (aU (kP rfl (setsC_pure _)) (aU (kI rfl) (aU (kR rfl) (aU (kR rfl) (aU (kR rfl) aM)))))))
   refine W.loop_ind (α:=Int × Nat × List Nat) (fun x=>x.1.toNat) 8 (fun x=>up (up (up (up (up (up (up (up mt 0 (some (.own 0 0))) 2 (some (.own 1 0))) 3 (some (.osl 2 0 5 1))) 4 (some (.own 3 0))) 6 (some (.own 5 0))) 8 (some (.base (.int .i64 x.1)))) 12 (some (.base (.int .i64 (n0:Int))))) 13 (some (.base (.int .i64 (k:Int))))) (fun x=>up (up (up (up (up (up (up (up mt 0 (some (deckC l x.2.1))) 1 (some ([.nils,.nils]))) 2 (some (nms))) 3 (some ([.osl 4 0 ss.length 3,.nils]))) 4 (some (setsC ss))) 5 (some ([.base (.string (asN k)),.osl 6 0 as_.length 1,.osl 7 0 x.2.2.length 1]))) 6 (some (intsC as_))) 7 (some (strsC x.2.2))) (fun x=>(0≤x.1∧x.2.2.length + x.1≤3)∧∀ z∈x.2.2,z < 5) (((n2:Int)),a2,(([]:List Nat))) (show (0≤((n2:Int))∧(([]:List Nat)).length + ((n2:Int))≤3)∧∀ z∈(([]:List Nat)),z < 5 from ⟨⟨by omega,by simp;omega⟩,fun x h=>absurd h List.not_mem_nil⟩) ?_
   rintro ⟨n,b,sl⟩ hIC ihC
   try (dsimp only at hIC)
   try dsimp only
   obtain ⟨⟨hm0,hm3⟩,hsl⟩:=hIC
   by_cases hcc:0 < n
   ·have g3:decide (n > 0)=true:=decide_eq_true hcc
    obtain ⟨x,b1,bx,hx⟩:=nextC l b 5 (by decide) (by decide) hl
    have hx5:x < 5:=by omega
    have hnx:=nms_at hx5
    refine Wq<|Wq<|qW 86 88 rfl<|qM rfl<|qGt rfl<|Nl<|Wt rfl ‹_›<|Wu<|Wq<|Wb<|Wd 92 103 (by decide) rfl mixed rfl<|qF rfl ty65 rfl<|qL rfl ty55 rfl<|qM rfl<|qM rfl<|Od rfl rfl (C1 (fr:=[]) rfl rfl (hx) fok12 (.own rfl rfl (.cons rfl (.pure rfl) .nil)) rfl rfl rfl (Cn _ _) (by decide) rfl)<|Od rfl rfl (Ia rfl rfl rfl rfl ty55 ty9 (by omega))<|Od rfl rfl (Ld rfl rfl rfl hnx ty9 rfl)<|Od rfl rfl (LO.buildSlice rfl ty55 ty9 (by decide) (by decide) (.cons rfl rfl rfl rfl (Sl rfl) .nil))<|Od rfl rfl (Lap rfl rfl (Sso rfl rfl (Tl rfl)) rfl (strs_tk rfl) ty55 ty55 ty9 (by decide) (by omega) (by omega) (by decide))<|qF rfl ty65 rfl<|qS rfl ty55 (Sl rfl) rfl<|Nl ⟨by kernel_rfl,(qW 107 110 rfl<|qM rfl<|Od rfl rfl (LO.sub_in rfl rfl rfl (iW _ (by omega)))<|qA rfl<|Nl ?_)⟩
    rw [strs_snocR,show sl.length + 1=(sl++[x]).length from by simp]
    refine WL.rename [(0,0),(1,1),(2,2),(3,3),(4,4),(5,5),(6,6),(7,100)] 8 (by decide) ?_ ?_ (ihC ((n - 1),b1,(sl++[x])) (show (n - 1).toNat < n.toNat from by omega) (show (0≤(n - 1)∧(sl++[x]).length + (n - 1)≤3)∧∀ z∈(sl++[x]),z < 5 from ⟨⟨by omega,by simp;omega⟩,memR hsl hx5⟩))
    ·exact aU (lR rfl) (aU (lR rfl) (aU (lR rfl) (aU (lI rfl) (aU (lI rfl) (aU (lI rfl) (aU (lI rfl) (aU (lI rfl) aM)))))))
    ·exact aU (kP rfl (strsC_pure _)) (aU (kP rfl (intsC_pure _)) (aU (kI rfl) (aU (kP rfl (setsC_pure _)) (aU (kI rfl) (aU (kR rfl) (aU (kR rfl) (aU (kR rfl) aM)))))))
   ·have g3:decide (n > 0)=false:=decide_eq_false hcc
    have hsl3:sl.length≤3:=by omega
    clear ihC
    refine Wq<|Wq<|qW 86 88 rfl<|qM rfl<|qGt rfl<|Nl<|Wo rfl ‹_›<|Wx<|Wv (q:=5) (j:=1) (r:=6) rfl rfl (by decide) rfl (ints_tk rfl) (intsC_pure _) (Sl rfl)<|Wv (q:=5) (j:=2) (r:=7) rfl rfl (by decide) rfl (strs_tk rfl) (strsC_pure _) (Sl rfl)<|qW 114 121 rfl<|qF rfl ty28 rfl<|qL rfl ty25 rfl<|qG rfl ty65 rfl (Tl rfl)<|Od rfl rfl (LO.buildSlice rfl ty25 ty65 (by decide) (by decide) (.cons rfl rfl rfl rfl (Sl rfl) .nil))<|Od rfl rfl (Lap rfl rfl (Sso rfl rfl (Tl rfl)) rfl (sets_all rfl) ty25 ty25 ty65 (by decide) (by omega) (by omega) (by decide))<|qF rfl ty28 rfl<|qS rfl ty25 (Sl rfl) rfl<|Nl ?_
    rw [show setsC ss++[.base (.string (asN k)),.isl (intsC as_) as_.length,.isl (strsC sl) sl.length]=setsC (ss++[⟨k,as_,sl⟩]) from by rw [setsC_app];rfl,show ss.length + 1=(ss++[(⟨k,as_,sl⟩:SetR)]).length from by simp]
    refine qW 125 127 rfl<|qZ rfl (iW _ (by omega))<|qM rfl<|Nl ?_
    rw [hkk]
    refine WL.rename [(0,0),(1,1),(2,2),(3,3),(4,118)] 5 (by decide) ?_ ?_ (ihA ((k + 1),b,(ss++[(⟨k,as_,sl⟩:SetR)])) (show n0 - (k + 1) < n0 - k from by omega) (show (k + 1)≤n0∧(ss++[(⟨k,as_,sl⟩:SetR)]).length=(k + 1)∧SetsOk (ss++[(⟨k,as_,sl⟩:SetR)]) from ⟨by omega,by simp;omega,hss.snoc hlen hk4 ⟨has3,has,hsl3,hsl⟩⟩))
    ·exact aU (lR rfl) (aU (lR rfl) (aU (lI rfl) (aU (lI rfl) (aU (lI rfl) (aU (lI rfl) aM)))))
    ·exact aU (kP rfl (setsC_pure _)) (aU (kI rfl) (aU (kR rfl) (aU (kR rfl) (aU (kR rfl) aM))))
 ·have g1:decide ((k:Int) < (n0:Int))=false:=decide_eq_false (by omega)
  obtain ⟨n3,a3,bn3,hn3⟩:=nextC l a 12 (by decide) (by decide) hl
  clear ihA
  refine Wq<|qW 24 25 rfl<|qK rfl<|Nl<|Wq<|Wo rfl ‹_›<|Wx<|Wq<|Wq<|qW 131 134 rfl<|qM rfl<|Od rfl rfl (C1 (fr:=[]) rfl rfl (hn3) fok12 (.own rfl rfl (.cons rfl (.pure rfl) .nil)) rfl rfl rfl (Cn _ _) (by decide) rfl)<|qA rfl<|Nl<|Wb<|W.namec 134 (134 + 1) (q:=3) (j:=1) (sz:=6) rfl rfl (Sl rfl) (by decide) (by decide) (by decide)<|W.rename [(0,0),(1,1),(2,3),(3,4),(4,134)] 5 (T':=up (up (up (up mt 0 (some (.own 0 0))) 2 (some (.own 1 0))) 4 (some (.own 2 0))) 9 (some (.base (.int .i64 ((n3:Int)))))) (H':=up (up (up (up (up mt 0 (some (deckC l a3))) 1 (some ([.nils,.nils]))) 2 (some ([.osl 3 0 ss.length 3,.osl 4 0 (([]:List ObjR)).length 6]))) 3 (some (setsC ss))) 4 (some (objsC (([]:List ObjR))))) (by decide) ?_ ?_ ?_
  ·exact aU (lR rfl) (aU (lI rfl) (aU (lI rfl) (aU (lI rfl) aM)))
  ·exact aU (kR rfl) (aU (kP rfl (setsC_pure _)) (aU (kI rfl) (aU (kR rfl) (aU (kR rfl) aM))))
  refine W.loop_ind (α:=Int × Nat × List ObjR) (fun x=>x.1.toNat) 5 (fun x=>up (up (up (up mt 0 (some (.own 0 0))) 2 (some (.own 1 0))) 4 (some (.own 2 0))) 9 (some (.base (.int .i64 x.1)))) (fun x=>up (up (up (up (up mt 0 (some (deckC l x.2.1))) 1 (some ([.nils,.nils]))) 2 (some ([.osl 3 0 ss.length 3,.osl 4 0 x.2.2.length 6]))) 3 (some (setsC ss))) 4 (some (objsC x.2.2))) (fun x=>(0≤x.1∧x.2.2.length + x.1≤11)∧∀ z∈x.2.2,ObjOk z) (((n3:Int)),a3,(([]:List ObjR))) (show (0≤((n3:Int))∧(([]:List ObjR)).length + ((n3:Int))≤11)∧∀ z∈(([]:List ObjR)),ObjOk z from ⟨⟨by omega,by simp;omega⟩,fun x h=>absurd h List.not_mem_nil⟩) ?_
  rintro ⟨n,b,os⟩ hID ihD
  try (dsimp only at hID)
  try dsimp only
  obtain ⟨⟨hm0,hm3⟩,hos⟩:=hID
  by_cases hcd:0 < n
  ·have g3:decide (n > 0)=true:=decide_eq_true hcd
   obtain ⟨_,_,hob,o,b1,hok,rfl,rfl⟩:=dobj_any l b hl
   refine Wq<|Wq<|qW 138 140 rfl<|qM rfl<|qGt rfl<|Nl<|Wt rfl ‹_›<|Wu<|Wq<|Wb<|Wd 144 152 (by decide) rfl mixed rfl<|qF rfl ty28 rfl<|qL rfl ty26 rfl<|qM rfl<|Od rfl rfl (C1 (fr:=[]) rfl rfl (hob) fok20 (.own rfl rfl .nil) rfl rfl rfl (Cn _ _) (by decide) rfl)<|Od rfl rfl (LO.buildSlice rfl ty26 ty38 (by decide) (by decide) (.cons rfl rfl rfl rfl (Sl rfl) .nil))<|Od rfl rfl (Lap rfl rfl (Sso rfl rfl (Tl rfl)) rfl (objs_all rfl) ty26 ty26 ty38 (by decide) (by omega) (by omega) (by decide))<|qF rfl ty28 rfl<|qS rfl ty26 (Sl rfl) rfl<|Nl ⟨by kernel_rfl,(qW 156 159 rfl<|qM rfl<|Od rfl rfl (LO.sub_in rfl rfl rfl (iW _ (by omega)))<|qA rfl<|Nl ?_)⟩
   rw [show objsC os++[.base (.bool o.p.ad.v6),.base (.int .u64 o.p.ad.hi),.base (.int .u64 o.p.ad.lo),.base (.int .i64 o.p.len),.base (.int .i64 o.mx),.base (.int .i64 o.asn)]=objsC (os++[o]) from by rw [objsC_app];rfl,show os.length + 1=(os++[o]).length from by simp]
   refine WL.rename [(0,0),(1,1),(2,2),(3,3),(4,149)] 5 (by decide) ?_ ?_ (ihD ((n - 1),b1,(os++[o])) (show (n - 1).toNat < n.toNat from by omega) (show (0≤(n - 1)∧(os++[o]).length + (n - 1)≤11)∧∀ z∈(os++[o]),ObjOk z from ⟨⟨by omega,by simp;omega⟩,memR hos hok⟩))
   ·exact aU (lR rfl) (aU (lI rfl) (aU (lI rfl) (aU (lI rfl) aM)))
   ·exact aU (kP rfl (objsC_pure _)) (aU (kP rfl (setsC_pure _)) (aU (kI rfl) (aU (kR rfl) (aU (kR rfl) aM))))
  ·have g3:decide (n > 0)=false:=decide_eq_false hcd
   clear ihD
   refine Wq<|Wq<|qW 138 140 rfl<|qM rfl<|qGt rfl<|Nl<|Wo rfl ‹_›<|Wx<|Wv (q:=2) (j:=0) (r:=3) rfl rfl (by decide) rfl (sets_all rfl) (setsC_pure _) (Sl rfl)<|Wv (q:=2) (j:=1) (r:=4) rfl rfl (by decide) rfl (objs_all rfl) (objsC_pure _) (Sl rfl)<|Wq<|qW 163 165 rfl<|qG rfl ty28 rfl (Tl rfl)<|qS rfl ty28 (Sl rfl) rfl<|Nl<|Wz ⟨.inl rfl,_,(up mt 0 (some (deckC l b))),(Rc (Ra0 rfl rfl ty28 rfl (Tl rfl)) Rv),(aU rfl aM),?_⟩
   exact ⟨ss,os,b,⟨hss,⟨by omega,hos⟩⟩,rfl,rfl⟩
end Go.Proofs.YtndbhhgmpjjjhaaGreatDoor
namespace Go.Proofs.YtndbhhgmpjjjhaaGreatDoor
open Go.ChangeShapes Go.WideShapes Go.ChangeAt Go.RowKit
set_option maxRecDepth 20000 in
theorem open_ints {H:Type} {enc:TypeId × Value→H} {w:World} {base:Nat} {spare:Nat→Bool} {held:Bool} {fuel:Nat} {t te:TypeId} {q:IntKind} {n:Nat} {cs:List Value} {y:DataW H × List MemPlace}
 (ht:Tryz.prog.underlying t=some (.array n te)) (hte:Tryz.prog.underlying te=some (.int q)) (hce:Tryz.prog.cellsOf te=1) (hc:Tryz.prog.cellsOf t=n) (h:DataW.trod enc Tryz.prog w base spare held fuel t cs=some y) :
 ∃ ks:List Int,cs=ks.map (Value.int q)∧y.1=.agg (ks.map fun k=>.lit (.int q k)):=by
 obtain ⟨xs,m,_,hx,hl,hn,hel⟩:=DataW.trod_array ht h
 rw [hc] at hl
 rw [hce] at hel
 have key:∀ i,i < n→∃ k:Int,cs[i]?=some (.int q k)∧(xs[i]?).map (·.1)=some (.lit (.int q k)):=fun i hi=>by
  have h1:=hel i hi
  rw [Nat.mul_one] at h1
  have h2:xs[i]?=some xs[i]:=List.getElem?_eq_getElem (by omega)
  rw [h2] at h1
  obtain ⟨k,e1,e2,_⟩:=DataW.trod_int hte h1
  refine ⟨k,?_,by rw [h2];simp [e2]⟩
  have h3:((cs.drop i).take 1)[0]?=some (.int q k):=by rw [e1];rfl
  simpa using h3
 have hks:∃ ks:List Int,ks.length=n∧∀ i,i < n→∀ k,cs[i]?=some (.int q k)→ks[i]?=some k:=by
  refine ⟨cs.map fun v=>match v with
   | .int _ z=>z
   | _=>0,by simpa using hl,fun i hi k hk=>by simp [hk]⟩
 obtain ⟨ks,hkl,hk⟩:=hks
 refine ⟨ks,?_,?_⟩
 ·refine List.ext_getElem? fun i=>?_
  by_cases hi:i < n
  ·obtain ⟨k,h1,_⟩:=key i hi
   rw [h1,List.getElem?_map,hk i hi k h1];rfl
  ·rw [List.getElem?_eq_none (by omega),List.getElem?_eq_none (by simp;omega)]
 ·rw [hx]
  show DataW.agg _=_
  congr 1
  refine List.ext_getElem? fun i=>?_
  by_cases hi:i < n
  ·obtain ⟨k,h1,h2⟩:=key i hi
   rw [List.getElem?_map,h2,List.getElem?_map,hk i hi k h1];rfl
  ·rw [List.getElem?_eq_none (by simp;omega),List.getElem?_eq_none (by simp;omega)]
theorem litq_inj {H:Type} {q:IntKind} {a b:List Int} (h:(a.map fun k=>(DataW.lit (.int q k):DataW H))=b.map fun k=>.lit (.int q k)):a=b:=by
 induction a generalizing b with
 | nil=>cases b with
  | nil=>rfl
  | cons y b=>cases h
 | cons x a ih =>
  cases b with
  | nil=>cases h
  | cons y b =>
   simp only [List.map_cons,List.cons.injEq,DataW.lit.injEq,Lit.int.injEq,true_and] at h
   rw [h.1,ih h.2]
theorem laid_row {W:World} {nm:String} {g:Nat} {t te:TypeId} {q:IntKind} {n:Nat} {cs:Array Value} {fuel:Nat} {p:List MemPlace} {ks:List Int} {d:DataW Unit} (hd0:d=.agg (ks.map fun k=>.lit (.int q k))) (hne:ks≠[])
 (hg:Tryz.prog.globalNamed nm=some g) (ht:Tryz.prog.underlying t=some (.array n te)) (hte:Tryz.prog.underlying te=some (.int q)) (hce:Tryz.prog.cellsOf te=1) (hc:Tryz.prog.cellsOf t=n)
 (hv:W.var? Tryz.prog nm=some cs) (hd:DataW.trod (fun _=>()) Tryz.prog W 0 (fun _=>true) false fuel t cs.toList=some (d,p)) :
 g < W.heap.size∧∀ (i:Nat) v,(ks.map (Value.int q))[i]?=some v→W.cell? ⟨g,i,none⟩=some v:=by
 obtain ⟨ks',e1,e2⟩:=open_ints ht hte hce hc hd
 rw [hd0] at e2
 have e3:=litq_inj (DataW.agg.inj e2)
 subst e3
 obtain ⟨l⟩:=cs
 simp only at e1
 subst e1
 have hcell:∀ i,W.cell? ⟨g,i,none⟩=(ks.map (Value.int q)).toArray[i]?:=fun i=>World.var?_cell hg hv i
 refine ⟨?_,fun i v hv=>?_⟩
 ·cases ks with
  | nil=>exact absurd rfl hne
  | cons k ks=>exact World.block_lt_of_cell? W _ ((hcell 0).trans (by rfl))
 ·rw [hcell i,← hv,List.getElem?_toArray]
theorem Tryz.gH : Tryz.prog.globalNamed "exchangepoint/arp.head" = some 0 := by kernel_rfl
theorem Tryz.gP : Tryz.prog.globalNamed "internal/strconv.uint64pow10" = some 2 := by kernel_rfl
theorem Tryz.gD : Tryz.prog.globalNamed "math/bits.deBruijn64tab" = some 8 := by kernel_rfl
theorem Tryz.tyH:(Tryz.prog.globals[0]?).map (·.type)=some 92:=by kernel_rfl
theorem Tryz.tyP:(Tryz.prog.globals[2]?).map (·.type)=some 398:=by kernel_rfl
theorem Tryz.tyD:(Tryz.prog.globals[8]?).map (·.type)=some 421:=by kernel_rfl
theorem ty_of {nm:String} {g g':Nat} {t t':TypeId} (hg:Tryz.prog.globalNamed nm=some g) (ht:(Tryz.prog.globals[g]?).map (·.type)=some t) (hg':Tryz.prog.globalNamed nm=some g') (ht':(Tryz.prog.globals[g']?).map (·.type)=some t'):t'=t:=by
 obtain rfl:=Option.some.inj (hg.symm.trans hg')
 exact (Option.some.inj (ht.symm.trans ht')).symm
theorem open_max {W:World} (h:W.ShapedOpen Tryz.prog):∃ m,W.cell? ⟨1,0,none⟩=some (.int .i64 m) :=
 cell_of_shapedOpen_int (t:=3) (zero:=#[.int .i64 0]) h (of_decide_eq_true (by kernel_rfl)) (by kernel_rfl) rfl (by kernel_rfl) (by kernel_rfl) Tryz.underlying3
theorem glob_of_laidT {W : World} (hs : W.ShapedOpen Tryz.prog) (h : laidMetH Tryz.prog [("math/bits.deBruijn32tab", Rows.laid_math_bits_deBruijn32tab), ("math/bits.deBruijn64tab", Rows.laid_math_bits_deBruijn64tab), ("internal/strconv.uint64pow10", Rows.laid_internal_strconv_uint64pow10), ("unicode/utf8.acceptRanges", Rows.laid_unicode_utf8_acceptRanges), ("strconv.ErrRange", Rows.laid_strconv_ErrRange), ("strconv.ErrSyntax", Rows.laid_strconv_ErrSyntax), ("exchangepoint/arp.head", Rows.laid_exchangepoint_arp_head), ("unicode/utf8.first", Rows.laid_unicode_utf8_first)] W) : Glob (fun _ => False) W := by
 rw [MakeChecks.laidMetH_plain _ _ _ (by kernel_rfl)] at h
 obtain ⟨ps,⟨g0,t0,cs0,f0,p0,q0,hg0,ht0,hv0,hd0,⟨g1,t1,cs1,f1,p1,q1,hg1,ht1,hv1,hd1,⟨g2,t2,cs2,f2,p2,q2,hg2,ht2,hv2,hd2,⟨g3,t3,cs3,f3,p3,q3,hg3,ht3,hv3,hd3,⟨g4,t4,cs4,f4,p4,q4,hg4,ht4,hv4,hd4,⟨g5,t5,cs5,f5,p5,q5,hg5,ht5,hv5,hd5,⟨g6,t6,cs6,f6,p6,q6,hg6,ht6,hv6,hd6,_,_⟩,_⟩,_⟩,_⟩,_⟩,_⟩,_⟩,_,_⟩:=h
 obtain rfl:=ty_of Tryz.gD Tryz.tyD hg1 ht1
 obtain rfl:=ty_of Tryz.gP Tryz.tyP hg2 ht2
 obtain rfl:=ty_of Tryz.gH Tryz.tyH hg6 ht6
 obtain ⟨a1,a2⟩:=laid_row (ks:=[0,1,56,2,57,49,28,3,61,58,42,50,38,29,17,4,62,47,59,36,45,43,51,22,53,39,33,30,24,18,12,5,63,55,48,27,60,41,37,16,46,35,44,21,52,32,23,11,54,26,40,15,34,20,31,10,25,14,19,9,13,8,7,6]) (q:=.u8) rfl (fun h=>by cases h) Tryz.gD Tryz.underlying421 Tryz.underlying5 (by kernel_rfl) (by kernel_rfl) hv1 hd1
 obtain ⟨b1,b2⟩:=laid_row (ks:=[1,10,100,1000,10000,100000,1000000,10000000,100000000,1000000000,10000000000,100000000000,1000000000000,10000000000000,100000000000000,1000000000000000,10000000000000000,100000000000000000,1000000000000000000,10000000000000000000]) (q:=.u64) rfl (fun h=>by cases h) Tryz.gP Tryz.underlying398 Tryz.underlying32 (by kernel_rfl) (by kernel_rfl) hv2 hd2
 obtain ⟨c1,c2⟩:=laid_row (ks:=[0,1,8,0,6,4]) (q:=.u8) rfl (fun h=>by cases h) Tryz.gH Tryz.underlying92 Tryz.underlying5 (by kernel_rfl) (by kernel_rfl) hv6 hd6
 obtain ⟨m,hm⟩:=open_max hs
 refine ⟨fun g vs hg=>?_,fun g hg=>?_⟩
 ·unfold gRaw at hg
  split at hg
  ·injection hg with hg;subst hg;exact ⟨c1,fun h=>h,c2⟩
  ·injection hg with hg;subst hg;exact ⟨b1,fun h=>h,b2⟩
  ·injection hg with hg;subst hg;exact ⟨a1,fun h=>h,a2⟩
  ·cases hg
 ·have:=Nat.eq_of_beq_eq_true hg
  subst this
  exact ⟨World.block_lt_of_cell? W _ hm,fun h=>h,m,hm⟩
theorem returns_and_shaped {H:Type} {enc:TypeId × Value→H} {a:Assume} {C:Checked} {os:Os} {f:FuncId} {fn:Func} {s:ChangeSpec} {conds:List PathCond} {apart fresh handsOn again:Bool} {X:World→Array Value→Prop}
 (hX:∀ (w w':World) (args:Array Value),w.heap=w'.heap→X w args→X w' args)
 (own:ownKnob C.prog.godebug=none) (started:os.Started) (noInit:C.prog.inits.idxOf? f=none) (hfn:C.prog.funcs[f]?=some fn)
 (witness:∃ (w:World) (tape:Tape) (i:Input),w.os=os∧(w.forCall tape i).Shaped C.prog∧i.vars=[]∧Input.okWide C.prog (w.forCall tape i) .any w.heap.size f i ∧
  ((s.pre enc C.prog fn conds apart (w.forCall tape i).memory i.args∧X (w.forCall tape i).memory i.args)∧sizedMet enc C.prog fn (OpenSpec.ofChange s) apart (w.forCall tape i).memory i.args)∧a.holds C.prog (lone (Frame.enter C.prog f i.args .normal) [] (w.forCall tape i)))
 (contract:∀ (W:World) (base:Nat) (args:Array Value) (ds gs:List (DataW H)) (before:List MemPlace),
  (∀ (j:Nat) t v,fn.params[j]?=some t→args[j]?=some v→Value.okWide C.prog W .any base t v) →
  DataW.Whole enc C.prog fn.params.toList s.vars apart W args.toList ds gs before →
  W.ShapedOpen C.prog→X W args →
  Calls C.prog f args W fun e W'=>∃ v,e=.returned v∧s.post enc C.prog fn apart fresh handsOn again W args v W') :
 ReturnsInHanded a C os f .any (fun w args=>(s.pre enc C.prog fn conds apart w args∧X w args)∧sizedMet enc C.prog fn (OpenSpec.ofChange s) apart w args) (s.post enc C.prog fn apart fresh handsOn again):=by
 refine returnsInHanded_of_calls own started noInit witness ?_
 intro w tape i _ hsh _ hok hpre hholds
 obtain ⟨_,_,_,fn',hfn',_,_,_,_,hval⟩:=hok
 have e:fn'=fn:=Option.some.inj (hfn'.symm.trans hfn)
 subst e
 obtain ⟨⟨⟨ds,gs,before,hw,hc⟩,hx⟩,hz⟩:=hpre
 have hw':=DataW.Whole.of_heap (w':=w.forCall tape i) (by rfl) hw
 refine (contract (w.forCall tape i) w.heap.size i.args ds gs before hval hw' hsh (hX _ _ _ (by rfl) hx)).mono fun e W' ⟨v,he,hp⟩=>?_
 subst he
 exact ChangeSpec.post_blind hp
section
variable {H:Type} {enc:TypeId × Value→H}
theorem opInt:Opens enc Tryz.prog 3 (fun (z:Int)=>[.base (.int .i64 z)]) (fun z=>(Lit.int .i64 z).wf=true):=.int Tryz.underlying3
theorem opInts:Opens enc Tryz.prog 22 (fun (l:List Int)=>[.isl (intsC l) l.length]) (fun l=>l.length≤9223372036854775807) :=
 (Opens.slice (n:=1) Tryz.underlying22 opInt (by kernel_rfl) (by decide) (fun _ _=>rfl)).map id (fun l _=>by unfold intsC;rw [List.map_eq_flatMap];rfl) (fun l h=>by have:=h.1;unfold maxLen at this;simp only [id];omega)
end
end Go.Proofs.YtndbhhgmpjjjhaaGreatDoor
namespace Go.Proofs.YtndbhhgmpjjjhaaGreatDoor
open Go.RowKit
theorem mkbad_any (a:Ad) (n:Int) (hv:validA a.v6 a.hi a.lo=true) (hn:n < 0∨widthA a < n):AFn Tryz.prog 11 0 [.agg (adC a),.base (.int .i64 n)] mt (.tup [.agg (preC ⟨⟨false,0,0⟩,0⟩),.base (.int .i64 9)]) mt:=by
 refine AFn.eq Tryz.func11 rfl rfl (Nat.le_of_ble_eq_true rfl) ?_
 have hva:=rvalid_any a
 rw [hv] at hva
 have hwa:=width_any a
 refine Wq<|qW 0 3 rfl<|qC rfl<|qB rfl ty36<|qA rfl<|Nl<|Wq<|Wb<|Wq<|qW 7 11 rfl<|qG rfl ty34 rfl (Tl rfl)<|qY rfl (hva) fok19 rfl<|qO rfl<|qA rfl<|Nl<|Wo rfl rfl ?_
 by_cases h0:n < 0
 ·have g0:decide (n < 0)=true:=decide_eq_true h0
  refine Wq<|qW 22 31 rfl<|qM rfl<|qK rfl<|qM rfl<|qD rfl ‹_› rfl<|qD rfl ‹_› rfl<|qD rfl ‹_› rfl<|qD rfl ‹_› rfl<|qT rfl ‹_› rfl<|qA rfl<|Nl<|Wt rfl rfl<|Wq<|qW 35 38 rfl<|Od rfl rfl (Bs rfl ty36 .nil)<|qS rfl ty36 (Sl rfl) rfl<|qA rfl<|Nl<|Wz ⟨.inl rfl,_,mt,(Rc (Ra0 rfl rfl ty36 rfl (Tl rfl)) (Rc (Rt0 rfl) Rv)),aM,?_⟩
  exact ⟨rfl,rfl⟩
 ·have g0:decide (n < 0)=false:=decide_eq_false h0
  have g1:decide (n > widthA a)=true:=decide_eq_true (by omega)
  refine Wq<|qW 22 31 rfl<|qM rfl<|qK rfl<|qM rfl<|gM rfl ‹_›<|gG rfl ‹_› ty34 rfl (Tl rfl)<|gY rfl ‹_› (hwa) fok27 rfl<|gGt rfl ‹_›<|qP rfl ‹_› rfl<|qA rfl<|Nl<|Wt rfl ‹_›<|Wq<|qW 35 38 rfl<|Od rfl rfl (Bs rfl ty36 .nil)<|qS rfl ty36 (Sl rfl) rfl<|qA rfl<|Nl<|Wz ⟨.inl rfl,_,mt,(Rc (Ra0 rfl rfl ty36 rfl (Tl rfl)) (Rc (Rt0 rfl) Rv)),aM,?_⟩
  exact ⟨rfl,rfl⟩
theorem make_all (a:Ad) (n:Int) (hv:validA a.v6 a.hi a.lo=true) (h1:U64 a.hi) (h2:U64 a.lo):∃ (p:Pre) (e:Int),AFn Tryz.prog 11 0 [.agg (adC a),.base (.int .i64 n)] mt (.tup [.agg (preC p),.base (.int .i64 e)]) mt∧((e=0∧PreOk p∧p.len=n)∨e=9):=by
 by_cases h:0≤n∧n≤widthA a
 ·obtain ⟨k,rfl⟩:∃ k:Nat,n=(k:Int):=⟨n.toNat,by omega⟩
  exact ⟨_,_,make_any a k hv h1 h2 h.2,.inl ⟨rfl,mk_ok h.2,rfl⟩⟩
 ·exact ⟨_,_,mkbad_any a n hv (by omega),.inr rfl⟩
end Go.Proofs.YtndbhhgmpjjjhaaGreatDoor
namespace Go.Proofs.YtndbhhgmpjjjhaaGreatDoor
open Go.RowKit Go.Lib
section
variable {P:Program} {o:Oper} {E:Operand→Option AV} {H:Hp} {f:Nat} {t:TypeId} {size bytes:Nat} {zero:List AV} {x:Operand} {e sz by':Nat} {l':Lay} {z':List AV}
theorem LO.clear {r off len:Nat} {cs cs':List AV} (ho:o.op=.call { callee:=.builtin .clear,args:=#[x],argTypes:=#[t] }) (hx:E x=some (.osl r off len sz)) (hH:H r=some cs) (hs:Cp cs off (zerosL len z') cs')
 (ht:TyOK P t (.sl e) size bytes zero) (he:TyOK P e l' sz by' z') (h0:0 < sz) (hl0:0 < len) :
 LO P o E H f [] [r] (.tup []) (up H r (some cs')):=by
 refine ⟨fun r' hr=>up_ne (by simpa using hr),fun E' K hE hK X φ w ρ hR hst hf=>?_⟩
 rw [ovr_one]
 have hKr:=(hK r (.inr (by simp))).trans hH
 obtain ⟨A,cap,e1,hc,hcase⟩:=(hR x _ ((hE x (by simp [ho,Op.operands,Call.operands])).trans hx)).osl_inv
 obtain ⟨z,hz0,hzs,hzm,hzl,hz1⟩:=he.zeroV
 obtain ⟨i,zz,hi,hsz,hby,hz,_⟩:=info_of he
 have hzz:zz=z:=by
  have h:=hz0 w
  simp [zeroValue,typeInfo,hi,hz] at h
  exact h
 subst hzz
 subst hsz
 have hgz:=good_zeros (X:=X) (w:=w) (φ:=φ) len hzm hz1 (by omega)
 rw [hzl] at hgz
 obtain ⟨news,hnews⟩:∃ news:List Value,(Builtin.zeroCells zz.cells len).toList=news:=⟨_,rfl⟩
 have hnl:news.length=len * i.size:=by rw [← hnews,Array.length_toList,size_zeroCells,hzs]
 have hzn:(zerosL len z').length=news.length:=by rw [zerosL_len,hzl,← hnl]
 have hns:∀ (j:Nat) c,(zerosL len z')[j]?=some c→c.one=true∧∃ u,news[j]?=some u∧Rep X w φ u c:=fun j c hj=>by
  obtain ⟨g1,u,g2,g3⟩:=hgz.2 j c hj
  refine ⟨g1,u,?_,g3⟩
  have h9:(Builtin.zeroCells zz.cells len)[j]?=some u:=by
   unfold Builtin.zeroCells
   rw [hzs]
   rw [hzs] at g2
   exact g2
  rw [← hnews,Array.getElem?_toList]
  exact h9
 have hn1:∀ u∈news,u.oneCell'=true:=fun u hu=>by
  obtain ⟨j,hj⟩:=List.getElem?_of_mem hu
  have hlt:j < (zerosL len z').length:=by rw [hzn];exact (List.getElem?_eq_some_iff.1 hj).1
  obtain ⟨g1,u',g2,g3⟩:=hns j _ (List.getElem?_eq_getElem hlt)
  rw [hj] at g2;injection g2 with g2;subst g2
  exact g3.oneCell g1
 obtain ⟨rfl,h1⟩|⟨b,o',hp,rfl,hbs⟩:=hcase
 ·omega
 obtain ⟨c,el,hX,hh,hcs⟩:=hst.cells hKr hp (by omega)
 have hfit:o' + off + news.length≤c.size:=by
  rw [bsz_of hh] at hbs
  have:len * i.size≤cap * i.size:=Nat.mul_le_mul_right _ (by omega)
  omega
 have hrun:=run_storeCells_at P b (o' + off) el news 0 c w hh (by simpa using hfit) hn1
 simp only [Nat.add_zero] at hrun
 have hget:=splice_get c.toList news (o' + off)
 generalize hc':(c.toList.take (o' + off)++news++c.toList.drop (o' + off + news.length)).toArray=c' at hrun
 have hc'g:∀ i,c'[i]?=if i < o' + off then c[i]? else if i < o' + off + news.length then news[i - (o' + off)]? else c[i]?:=by
  intro i
  rw [← hc']
  have:=hget i (by simpa using hfit)
  simpa using this
 have hc's:c'.size=c.size:=by rw [← hc'];simp;omega
 obtain ⟨n1,n2,n3⟩:=hst.put (f:=f) (w':=w.setRow b c') (c':=c') (cs':=cs') hKr hp hh rfl rfl rfl (by simp) (fun b' hb'=>setRow_other w b b' c' hb') (setRow_heap w b c c' el (0,0) hh) hc's (fun j d hj=>by
  rw [hc'g]
  rcases hs j d hj with ⟨h3,h4⟩|⟨h3,h4⟩
  ·have hlt:j - off < (zerosL len z').length:=(List.getElem?_eq_some_iff.1 h4).1
   obtain ⟨h5,u,h6,h7⟩:=hns _ d h4
   refine ⟨h5,u,?_,h7⟩
   rw [if_neg (by omega),if_pos (by omega),show o' + j - (o' + off)=j - off from by omega]
   exact h6
  ·obtain ⟨h5,u,h6,h7⟩:=hcs j d h4
   refine ⟨h5,u,?_,h7⟩
   rcases h3 with h3|h3
   ·rw [if_pos (by omega)];exact h6
   ·rw [if_neg (by omega),if_neg (by omega)];exact h6)
 obtain ⟨n,rfl⟩:∃ n,len=n + 1:=⟨len - 1,by omega⟩
 have hcr:(Builtin.clear_ #[t] o.type #[.slice (some ⟨b,o' + off,none⟩) (n + 1) cap]).run P w=.ok (.tuple #[]) (w.setRow b c'):=by
  simp only [Builtin.clear_,Sem.run_bind,Sem.run_pure,Result.andThen_ok,List.getElem?_toArray,List.getElem?_cons_zero,run_underlying (lay_sl ht),hz0,hnews,hrun]
 unfold OpW
 simp only [execOp,ho,resolve,invoke,Go.builtin,Sem.run_bind,Sem.run_pure,Result.andThen_ok,List.map_toArray,List.map_cons,List.map_nil,e1,hcr]
 exact ⟨X,φ,n1,n2,.tup _ _ rfl fun i v c _ hc=>(by simp at hc)⟩
end
theorem W.conv {P:Program} {k n m:Nat} {T:Tp} {H:Hp} {K:Exit→Nat→Tp→Hp→Prop} {c:Code} {t:Nat} {x y:AV} (ht:T t=some x) (hw:∀ (X:Nat→Prop) (φ:Em) (w:World) (v:Value),Rep X w φ v x→Rep X w φ v y) (h:W P k n c m (up T t (some y)) H K):W P k n c m T H K:=by
 obtain ⟨e,m2,T2,H2,h1,h2⟩:=h
 refine ⟨e,m2,T2,H2,h1,fun B hB a w hs=>h2 B hB a w ?_⟩
 obtain ⟨h0,X,φ,g1,g2,g3,g4,g5,g6⟩:=hs
 exact ⟨h0,X,φ,g1,g2,g3,g4,all_up (p:=fun t v=>Rep X w φ (a.tmps.getD t undef) v) (hw X φ w _ (g5 t _ ht)) g5,g6⟩
end Go.Proofs.YtndbhhgmpjjjhaaGreatDoor
namespace Go.Proofs.YtndbhhgmpjjjhaaGreatDoor
open Go.RowKit
section
variable {P:Program} {o:Oper} {E:Operand→Option AV} {H:Hp} {f:Nat} {a av:AV} {t:TypeId} {kt et size bytes r:Nat} {zero:List AV} {x y z:Operand} {kd:Value→Prop} {ks:List Value} {as_:List AV} {key u v:Value}
theorem maC_inj {kd kd':Value→Prop} {ks ks':List Value} {as_ as':List AV} (h:maC kd ks as_=maC kd' ks' as'):kd=kd'∧ks=ks'∧as_=as':=by
 unfold maC at h
 injection h with h1 h
 injection h with h2 h3
 injection h1 with h1 _
 injection h2 with h2
 injection h2 with h2
 exact ⟨h1,List.toArray_inj h2,h3⟩
theorem St.mapa {X:Nat→Prop} {φ:Em} {w:World} {K:Hp} {b o:Nat} (hst:St X φ K w) (hr:K r=some (maC kd ks as_)) (hp:φ r=some (b,o)):X b∧∃ es clock,w.heap[b]?=some (.map es clock)∧MOkA X φ w kd ks as_ es:=by
 obtain ⟨hX,hB⟩:=hst.blk hr hp
 refine ⟨hX,?_⟩
 cases hB with
 | cells c e hh h=>have:=(h 0 _ rfl).1;cases this
 | map es cl kd' m' hc hh h =>
  injection hc with _ hc
  cases hc
 | mapk es cl k ks hc hh h =>
  injection hc with hc _
  cases hc
 | mapl es cl kd' ks' vs' hc hh h =>
  unfold mlC maC at hc
  injection hc with hc _
  injection hc with _ hc
  have:=congrFun hc (.bool true)
  cases this
 | mapa es cl kd' ks' as' hc hh h =>
  obtain ⟨rfl,rfl,rfl⟩:=maC_inj hc
  exact ⟨es,cl,hh,h⟩
theorem LO.makeMapA (kd:Value→Prop) (ho:o.op=.makeMap t none):LO P o E H f [] [f] (.mref f) (up H f (some (maC kd [] []))):=by
 refine ⟨fun r hr=>up_ne (by simpa using hr),fun E' K hE hK X φ w ρ hR hst hf=>?_⟩
 rw [ovr_one]
 have hrun:(execOp ρ o).run P w=.ok (.value (.map (some w.heap.size))) (w.alloc (.map #[] 0)):=by
  simp [execOp,ho,Instr.makeMap,newObj,Sem.run,Pure.pure]
 unfold OpW
 rw [hrun]
 obtain ⟨h1,h2,h3,h4⟩:=hst.freshB (cs:=maC kd [] []) (w':=w.alloc (.map #[] 0)) (ob:=.map #[] 0) hf rfl rfl rfl rfl fun hk=>.mapa #[] 0 kd [] [] rfl (heap_alloc_new w _) ⟨rfl,rfl,fun i e h=>by simp at h,rfl,List.nodup_nil⟩
 exact ⟨_,_,h1,h2,.mref f w.heap.size 0 h4⟩
theorem MOkA.find {X:Nat→Prop} {φ:Em} {w:World} {es:Array MapEntry} (h:MOkA X φ w kd ks as_ es) (hk:MKey P kt kd) (hkd:kd key):(∀ i:Nat,ks[i]?=some key→∃ (j:Nat) (e:MapEntry),(Instr.findKey kt key es.toList).run P w=.ok (some (j,e.val)) w∧∃ b,as_[i]?=some b∧Rep X w φ e.val b)∧(key ∉ ks→(Instr.findKey kt key es.toList).run P w=.ok none w):=by
 have hkeys:∀ e,e∈es.toList→kd e.key:=fun e he=>by
  obtain ⟨i,hi⟩:=List.getElem?_of_mem he
  exact (h.ent i e (by simpa using hi)).2.1
 rcases hk.find w key hkd es.toList hkeys with ⟨f1,f2⟩|⟨j,e,f1,f2,f3⟩
 ·refine ⟨fun i hi=>?_,fun _=>f1⟩
  have hlt:i < es.size:=by rw [h.size];exact (List.getElem?_eq_some_iff.1 hi).1
  have h1:=(h.ent i es[i] (by simp [hlt])).1
  rw [hi] at h1
  injection h1 with h1
  exact absurd h1.symm (f2 es[i] (by simp))
 ·obtain ⟨h1,_,b,h3,h4⟩:=h.ent j e (by simpa using f2)
  rw [f3] at h1
  refine ⟨fun i hi=>⟨j,e,f1,b,?_,h4⟩,fun hn=>absurd (List.mem_of_getElem? h1) hn⟩
  rw [nodup_at h.nd hi h1];exact h3
theorem LO.lookupA {i:Nat} (ho:o.op=.lookup t x y true) (hx:E x=some (.mref r)) (hy:E y=some a) (ha:KV a key) (hH:H r=some (maC kd ks as_)) (ht:TyOK P t (.map kt et) size bytes zero) (hk:MKey P kt kd) (hkd:kd key) (hi:ks[i]?=some key) (hav:as_[i]?=some av):LO P o E H f [r] [] (.tup [av,.base (.bool true)]) H :=
 .read r fun X φ w ρ K hR hK hst=>by
  obtain ⟨b,o',hp,e1⟩:=(hR x (by simp [ho,Op.operands]) _ hx).mref_inv
  have e2:=ha _ _ _ _ (hR y (by simp [ho,Op.operands]) _ hy)
  obtain ⟨_,es,cl,hb,hm⟩:=hst.mapa (hK.trans hH) hp
  obtain ⟨j,e,f1,b',f2,f3⟩:=(hm.find hk hkd).1 i hi
  rw [hav] at f2
  injection f2 with f2
  subst f2
  have hg:=MapKept.run_getObj_map (P:=P) hb
  have hrun:(Instr.lookup t (.map (some b)) key true).run P w=.ok (.tuple #[e.val,.bool true]) w:=by
   simp [Instr.lookup,run_underlying (lay_map ht),hg,hk.check w _ key hkd,f1]
  refine ⟨.tuple #[e.val,.bool true],by simp only [execOp,ho,e1,e2,Sem.run_bind,hrun,Result.andThen_ok,Sem.run_pure],.tup _ _ rfl fun i w' c hv hc=>?_⟩
  match i with
  | 0=>simp at hv hc;subst hv hc;exact f3
  | 1=>simp at hv hc;subst hv hc;exact .base _
  | i + 2=>simp at hc
theorem LO.lookupA_no {l':Lay} {sz by':Nat} {z':List AV} (ho:o.op=.lookup t x y true) (hx:E x=some (.mref r)) (hy:E y=some a) (ha:KV a key) (hH:H r=some (maC kd ks as_)) (ht:TyOK P t (.map kt et) size bytes zero) (hk:MKey P kt kd) (hkd:kd key) (hi:key ∉ ks) (he:TyOK P et l' sz by' z') (hzz:∀ (X:Nat→Prop) (w:World) (φ:Em) (u:Value),(∀ w,(Go.zeroValue et).run P w=.ok u w)→Rep X w φ u (.agg z')):LO P o E H f [r] [] (.tup [.agg z',.base (.bool false)]) H :=
 .read r fun X φ w ρ K hR hK hst=>by
  obtain ⟨b,o',hp,e1⟩:=(hR x (by simp [ho,Op.operands]) _ hx).mref_inv
  have e2:=ha _ _ _ _ (hR y (by simp [ho,Op.operands]) _ hy)
  obtain ⟨_,es,cl,hb,hm⟩:=hst.mapa (hK.trans hH) hp
  have f1:=(hm.find hk hkd).2 hi
  obtain ⟨u,hz0,_⟩:=he.zeroV
  have hg:=MapKept.run_getObj_map (P:=P) hb
  have hrun:(Instr.lookup t (.map (some b)) key true).run P w=.ok (.tuple #[u,.bool false]) w:=by
   simp [Instr.lookup,run_underlying (lay_map ht),hg,hk.check w _ key hkd,f1,hz0]
  refine ⟨.tuple #[u,.bool false],by simp only [execOp,ho,e1,e2,Sem.run_bind,hrun,Result.andThen_ok,Sem.run_pure],.tup _ _ rfl fun i w' c hv hc=>?_⟩
  match i with
  | 0=>simp at hv hc;subst hv hc;exact hzz _ _ _ _ hz0
  | 1=>simp at hv hc;subst hv hc;exact .base _
  | i + 2=>simp at hc
theorem LO.mapUpdateA (ho:o.op=.mapUpdate t x y z) (hx:E x=some (.mref r)) (hy:E y=some a) (ha:KV a key) (hzz:E z=some av) (hav:av.pureA=true) (hH:H r=some (maC kd ks as_)) (ht:TyOK P t (.map kt et) size bytes zero) (hk:MKey P kt kd) (hkd:kd key) (hn:key ∉ ks):LO P o E H f [] [r] (.base undef) (up H r (some (maC kd (ks++[key]) (as_++[av])))):=by
 have hops:o.op.operands=#[x,y,z]:=by rw [ho];rfl
 refine ⟨fun r' hr=>up_ne (by simpa using hr),fun E' K hE hK X φ w ρ hR hst hf=>?_⟩
 rw [ovr_one]
 obtain ⟨b,o',hp,e1⟩:=(hR x _ ((hE x (by rw [hops];simp)).trans hx)).mref_inv
 have e2:=ha _ _ _ _ (hR y _ ((hE y (by rw [hops];simp)).trans hy))
 have e3:=hR z _ ((hE z (by rw [hops];simp)).trans hzz)
 have hKr:K r=some (maC kd ks as_):=(hK r (.inr (by simp))).trans hH
 obtain ⟨hXb,es,cl,hb,hm⟩:=hst.mapa hKr hp
 have hg:=MapKept.run_getObj_map (P:=P) hb
 have hst':∀ ob:Obj,(setObj b ob).run P w=.ok () { w with heap:=w.heap.setIfInBounds b ob }:=fun ob=>MapKept.run_setObj_map ob hb
 have hblt:b < w.heap.size:=(Array.getElem?_eq_some_iff.1 hb).1
 have f1:=(hm.find hk hkd).2 hn
 have hrun:(Instr.mapUpdate t (.map (some b)) key (ρ z)).run P w=.ok () { w with heap:=w.heap.setIfInBounds b (.map (es.push { key:=key,val:=ρ z,born:=cl }) (cl + 1)) }:=by
  simp [Instr.mapUpdate,run_underlying (lay_map ht),hg,hk.check w _ key hkd,f1]
  rw [hst']
 generalize hw':({ w with heap:=w.heap.setIfInBounds b (.map (es.push { key:=key,val:=ρ z,born:=cl }) (cl + 1)) }:World)=w' at hrun
 have hb':w'.heap[b]?=some (.map (es.push { key:=key,val:=ρ z,born:=cl }) (cl + 1)):=by rw [← hw'];simp [hblt]
 have hoth:∀ b',b'≠b→w'.heap[b']?=w.heap[b']?:=fun b' hne=>by rw [← hw'];simp [Ne.symm hne]
 have hbst:∀ b',bst w' b'=bst w b':=fun b'=>by
  by_cases e:b'=b
  ·subst e;unfold bst bsz bel;rw [hb',hb]
  ·unfold bst bsz bel;rw [hoth b' e]
 have hkeep:∀ v a,Rep X w φ v a→Rep X w' φ v a:=fun v a h=>h.keep (by rw [← hw'];simp) (fun b' _ hX=>hoth b' fun e=>hX (e ▸ hXb)) (fun b' _=>hbst b') (fun _ _ h=>h) (fun _ _ h=>h)
 have hm':MOkA X φ w' kd (ks++[key]) (as_++[av]) (es.push { key:=key,val:=ρ z,born:=cl }):=by
  refine ⟨by simp [hm.size],by simp [hm.len],fun i e hi=>?_,by rw [List.all_append,hm.pu];simp [hav],List.nodup_append.2 ⟨hm.nd,List.pairwise_singleton _ _,fun q hq b hb e=>?_⟩⟩
  ·rw [Array.getElem?_push] at hi
   split at hi
   ·rename_i hq
    injection hi with hi
    subst hi
    refine ⟨by rw [hq,hm.size];simp,hkd,av,by rw [hq,hm.size,← hm.len];simp,hkeep _ _ e3⟩
   ·obtain ⟨h1,h2,b2,h3,h4⟩:=hm.ent i e hi
    exact ⟨by rw [List.getElem?_append_left (List.getElem?_eq_some_iff.1 h1).1];exact h1,h2,b2,by rw [List.getElem?_append_left (List.getElem?_eq_some_iff.1 h3).1];exact h3,hkeep _ _ h4⟩
  ·rw [List.mem_singleton] at hb
   subst hb
   exact hn (e ▸ hq)
 obtain ⟨g1,g2,g3⟩:=hst.putB (f:=f) (cs':=maC kd (ks++[key]) (as_++[av])) (w':=w') hKr hp (by rw [← hw']) (by rw [← hw']) (by rw [← hw']) (by rw [← hw'];simp) hoth (hbst b) fun _=>.mapa _ _ kd _ _ rfl hb' hm'
 unfold OpW
 have:(execOp ρ o).run P w=.ok .skip w':=by
  simp only [execOp,ho,e1,e2,Sem.run_bind,hrun,Result.andThen_ok,Sem.run_pure]
 rw [this]
 exact ⟨X,φ,g1,g2,.base _⟩
end
end Go.Proofs.YtndbhhgmpjjjhaaGreatDoor
namespace Go.Proofs.YtndbhhgmpjjjhaaGreatDoor
open Go.RowKit
section
variable {P:Program} {o:Oper} {E:Operand→Option AV} {H:Hp} {f:Nat} {a av:AV} {t:TypeId} {kt et size bytes r:Nat} {zero:List AV} {x y z:Operand} {kd:Value→Prop} {ks vs ks' vs':List Value} {key u v:Value} {g it:FuncId} {ts:Array TypeId}
theorem LO.mapPutL (ho:o.op=.mapUpdate t x y z) (hx:E x=some (.mref r)) (hy:E y=some a) (ha:KV a key) (hzz:E z=some (.base u)) (hH:H r=some (mlC kd ks vs)) (ht:TyOK P t (.map kt et) size bytes zero) (hk:MKey P kt kd) (hkd:kd key)
 (hc:(key ∉ ks∧ks'=ks++[key]∧vs'=vs++[u])∨(∃ i:Nat,ks[i]?=some key∧vs[i]?=some u∧ks'=ks∧vs'=vs)):LO P o E H f [] [r] (.base undef) (up H r (some (mlC kd ks' vs'))):=by
 have hops:o.op.operands=#[x,y,z]:=by rw [ho];rfl
 refine ⟨fun r' hr=>up_ne (by simpa using hr),fun E' K hE hK X φ w ρ hR hst hf=>?_⟩
 rw [ovr_one]
 obtain ⟨b,o',hp,e1⟩:=(hR x _ ((hE x (by rw [hops];simp)).trans hx)).mref_inv
 have e2:=ha _ _ _ _ (hR y _ ((hE y (by rw [hops];simp)).trans hy))
 have e3:=(hR z _ ((hE z (by rw [hops];simp)).trans hzz)).base_eq
 have hKr:K r=some (mlC kd ks vs):=(hK r (.inr (by simp))).trans hH
 obtain ⟨es,cl,hb,hm⟩:=hst.mapl hKr hp
 have hg:=MapKept.run_getObj_map (P:=P) hb
 have hst':∀ ob:Go.Obj,(setObj b ob).run P w=.ok () { w with heap:=w.heap.setIfInBounds b ob }:=fun ob=>MapKept.run_setObj_map ob hb
 have hblt:b < w.heap.size:=(Array.getElem?_eq_some_iff.1 hb).1
 have hkeys:∀ e,e∈es.toList→kd e.key:=fun e he=>by
  obtain ⟨i,hi⟩:=List.getElem?_of_mem he
  exact (hm.ent i e (by simpa using hi)).2.2.2
 have fin:∀ es' cl',LOk kd ks' vs' es' cl'→(Instr.mapUpdate t (.map (some b)) key u).run P w=.ok () { w with heap:=w.heap.setIfInBounds b (.map es' cl') } →
  OpW P o ρ w fun x w'=>∃ X' φ',Nxt K (·=f) X φ w (up K r (some (mlC kd ks' vs'))) X' φ' w'∧St X' φ' (up K r (some (mlC kd ks' vs'))) w'∧Rep X' w' φ' x (.base undef):=fun es' cl' hm' hrun=>by
  have hb':({ w with heap:=w.heap.setIfInBounds b (.map es' cl') }:World).heap[b]?=some (.map es' cl'):=by simp [hblt]
  obtain ⟨g1,g2,g3⟩:=hst.putB (f:=f) (cs':=mlC kd ks' vs') (w':={ w with heap:=w.heap.setIfInBounds b (.map es' cl') }) hKr hp rfl rfl rfl (by simp) (fun b' hb'=>by simp [Ne.symm hb']) (by unfold bst bsz bel;rw [hb',hb]) fun _=>.mapl es' cl' kd ks' vs' rfl hb' hm'
  unfold OpW
  have:(execOp ρ o).run P w=.ok .skip { w with heap:=w.heap.setIfInBounds b (.map es' cl') }:=by
   simp only [execOp,ho,e1,e2,e3,Sem.run_bind,hrun,Result.andThen_ok,Sem.run_pure]
  rw [this]
  exact ⟨X,φ,g1,g2,.base _⟩
 have hin:∀ (j:Nat) (e:MapEntry),es[j]?=some e→e.key=key→ks[j]?=some key:=fun j e hj he=>by rw [← he];exact (hm.ent j e hj).1
 rcases hk.find w key hkd es.toList hkeys with ⟨f1,f2⟩|⟨j,e,f1,f2,f3⟩
 ·rcases hc with ⟨hn,rfl,rfl⟩|⟨i,h1,_,_,_⟩
  ·refine fin (es.push { key:=key,val:=u,born:=cl }) (cl + 1) ⟨by simp [hm.clk],by simp [hm.size],by simp [hm.len],fun i e hi=>?_,List.nodup_append.2 ⟨hm.nd,List.pairwise_singleton _ _,fun q hq b hb e=>?_⟩⟩ ?_
   ·rw [Array.getElem?_push] at hi
    split at hi
    ·rename_i hq
     injection hi with hi
     subst hi
     refine ⟨by rw [hq,hm.size];simp,by rw [hq,hm.size,← hm.len];simp,by show cl=i;rw [hq,hm.size,hm.clk],hkd⟩
    ·obtain ⟨h1,h2,h3,h4⟩:=hm.ent i e hi
     exact ⟨by rw [List.getElem?_append_left (List.getElem?_eq_some_iff.1 h1).1];exact h1,by rw [List.getElem?_append_left (List.getElem?_eq_some_iff.1 h2).1];exact h2,h3,h4⟩
   ·rw [List.mem_singleton] at hb
    subst hb
    exact hn (e ▸ hq)
   ·simp [Instr.mapUpdate,run_underlying (lay_map ht),hg,hk.check w _ key hkd,f1]
    rw [hst']
  ·have hlt:i < es.size:=by rw [hm.size];exact (List.getElem?_eq_some_iff.1 h1).1
   have h2:=(hm.ent i es[i] (by simp [hlt])).1
   rw [h1] at h2
   injection h2 with h2
   exact absurd h2.symm (f2 es[i] (by simp))
 ·have hj:es[j]?=some e:=by simpa using f2
  have hkj:=hin j e hj f3
  rcases hc with ⟨hn,_,_⟩|⟨i,h1,h2,rfl,rfl⟩
  ·exact absurd (List.mem_of_getElem? hkj) hn
  ·have hij:=nodup_at hm.nd h1 hkj
   subst hij
   refine fin (es.modify i fun e=>{ e with key:=key,val:=u }) cl ⟨hm.clk,by simp [hm.size],hm.len,fun i2 e2 hi=>?_,hm.nd⟩ ?_
   ·rw [Array.getElem?_modify] at hi
    split at hi
    ·rename_i hq
     subst hq
     rw [hj] at hi
     injection hi with hi
     subst hi
     exact ⟨h1,h2,(hm.ent i e hj).2.2.1,hkd⟩
    ·exact hm.ent i2 e2 hi
   ·simp [Instr.mapUpdate,run_underlying (lay_map ht),hg,hk.check w _ key hkd,f1,hj,f3,hk.stays w key hkd]
    rw [hst']
theorem St.below {X:Nat→Prop} {φ:Em} {w w':World} {K:Hp} {f:Nat→Prop} (hst:St X φ K w) (hb:Below w.heap.size w w'):Nxt K f X φ w K (fun b=>X b∧b < w.heap.size) φ w'∧St (fun b=>X b∧b < w.heap.size) φ K w'∧∀ v a,Rep X w φ v a→Rep (fun b=>X b∧b < w.heap.size) w' φ v a:=by
 have hbs:∀ b,b < w.heap.size→bst w' b=bst w b:=fun b h=>bsz_same (hb.block b h)
 have hk:∀ v a,Rep X w φ v a→Rep (fun b=>X b∧b < w.heap.size) w' φ v a:=fun v a h=>h.keep hb.size (fun b h _=>hb.block b h) hbs (fun _ _ h=>h.1) (fun _ _ h=>h)
 refine ⟨⟨hb.os,hb.tape,hb.output,hb.size,fun b h _=>hb.block b h,hbs,fun b h hX=>hX.1,fun b h hX=>.inl ⟨hX,h⟩,fun _ _=>rfl,fun r cs b o h1 h2=>.inr ⟨r,cs,o,h1,h2⟩⟩,⟨fun r cs hr=>?_,hst.inj,hst.gl.keep hb.size (fun b h _=>hb.block b h) fun _ _ h=>h.1⟩,hk⟩
 rcases hst.ow r cs hr with h|⟨b,o,h1,h2,h3⟩
 ·exact .inl h
 ·exact .inr ⟨b,o,h1,⟨h2,h3.lt⟩,h3.keep (hb.block b h3.lt) hk⟩
theorem LO.keysCall {tm:TypeId} (ho:o.op=.call { callee:=.value (.func g),args:=#[x],argTypes:=ts }) (hE:E (.func g)=some (.base (.func (.func g) #[] #[]))) (hF:FnOK P g) (hx:E x=some (.mref r))
 (h:∀ (mb:Option Nat) (W:World),Calls P g #[.map mb] W fun e w'=>e=.returned (.func (.func it) #[] #[.pointer (some ⟨W.heap.size,0,none⟩)])∧w'=W.alloc (.cells #[.map mb] tm)):LO P o E H f [] [] (.clom it r) H:=by
 refine ⟨fun r' hr=>rfl,fun E' K hE' hK X φ w ρ hR hst hf=>?_⟩
 rw [ovr_nil]
 obtain ⟨fn,hfn,hname,hb⟩:=hF
 have hops:o.op.operands=#[.func g]++#[x]:=by rw [ho];rfl
 have hρ:ρ (.func g)=.func (.func g) #[] #[]:=(hR (.func g) _ ((hE' _ (by rw [hops];simp)).trans hE)).base_eq
 obtain ⟨b,o',hp,e1⟩:=(hR x _ ((hE' x (by rw [hops];simp)).trans hx)).mref_inv
 unfold OpW
 rw [run_call ho hρ hfn hname hb]
 simp only [List.map_toArray,List.map_cons,List.map_nil,e1]
 refine (h (some b) w).mono ?_
 rintro e w' ⟨rfl,rfl⟩
 obtain ⟨k1,k2,_⟩:=hst.below (f:=(·=f)) ((Below.refl w.heap.size w).alloc (Nat.le_refl _) (.cells #[.map (some b)] tm))
 refine ⟨_,rfl,_,φ,k1,k2,.clom it r w.heap.size b o' (by simp) (fun h=>Nat.lt_irrefl _ h.2) ?_ hp⟩
 rw [cell_of (heap_alloc_new w _)];rfl
theorem Rep.clom_inv {X:Nat→Prop} {φ:Em} {w:World} {v:Value} (h:Rep X w φ v (.clom it r)):∃ bm b o',bm < w.heap.size∧w.cell? ⟨bm,0,none⟩=some (.map (some b))∧φ r=some (b,o')∧v=.func (.func it) #[] #[.pointer (some ⟨bm,0,none⟩)]:=by
 cases h with
 | clom _ _ bm b o hb hx hc h=>exact ⟨bm,b,o,hb,hc,h,rfl⟩
theorem LO.sortedCall {vals:List Value} (ho:o.op=.call { callee:=.value (.func g),args:=#[x],argTypes:=ts }) (hE:E (.func g)=some (.base (.func (.func g) #[] #[]))) (hF:FnOK P g) (hx:E x=some (.clom it r)) (hr:H r=some (mlC kd ks vs)) (hone:∀ v∈vals,v.oneCell'=true)
 (h:∀ (W:World) (b bm:Nat) (es:Array MapEntry) (clock:Nat),W.cell? ⟨bm,0,none⟩=some (.map (some b))→W.heap[b]?=some (.map es clock)→LOk kd ks vs es clock→Calls P g #[.func (.func it) #[] #[.pointer (some ⟨bm,0,none⟩)]] W fun e w'=>∃ v,e=.returned v∧Below W.heap.size W w' ∧
  ((v=.slice none 0 0∧vals=[])∨∃ gb cap cur ty,v=.slice (some ⟨gb,0,none⟩) vals.length cap∧W.heap.size≤gb∧w'.heap[gb]?=some (.cells cur ty (0,0))∧vals.length≤cap∧cur.toList.take vals.length=vals)):LO P o E H f [r] [] (.isl (vals.map .base) vals.length) H:=by
 refine ⟨fun r' hr=>rfl,fun E' K hE' hK X φ w ρ hR hst hf=>?_⟩
 rw [ovr_nil]
 obtain ⟨fn,hfn,hname,hb⟩:=hF
 have hops:o.op.operands=#[.func g]++#[x]:=by rw [ho];rfl
 have hρ:ρ (.func g)=.func (.func g) #[] #[]:=(hR (.func g) _ ((hE' _ (by rw [hops];simp)).trans hE)).base_eq
 have hKr:K r=some (mlC kd ks vs):=(hK r (.inl (by simp))).trans hr
 obtain ⟨bm,b,o',_,hcm,hp,e1⟩:=(hR x _ ((hE' x (by rw [hops];simp)).trans hx)).clom_inv
 obtain ⟨es,cl,hbh,hm⟩:=hst.mapl hKr hp
 unfold OpW
 rw [run_call ho hρ hfn hname hb]
 simp only [List.map_toArray,List.map_cons,List.map_nil,e1]
 refine (h w b bm es cl hcm hbh hm).mono ?_
 rintro e w' ⟨v,rfl,hbel,hv⟩
 obtain ⟨k1,k2,_⟩:=hst.below (f:=(·=f)) hbel
 refine ⟨v,rfl,_,φ,k1,k2,?_⟩
 rcases hv with ⟨rfl,rfl⟩|⟨gb,cap,cur,ty,rfl,h1,h2,h3,h4⟩
 ·exact .isl0 none 0
 ·refine .isl _ _ cap gb 0 (fun i=>(vals[i]?).getD undef) (Array.getElem?_eq_some_iff.1 h2).1 (fun hX=>by have:=hX.2;omega) h3 (fun i c hi=>?_) (fun i c hi=>?_) fun i c hi=>?_
  all_goals
   rw [List.getElem?_map] at hi
   obtain ⟨u,hu,rfl⟩:=Option.map_eq_some_iff.1 hi
  ·exact hone u (List.mem_of_getElem? hu)
  ·rw [cell_of h2,hu,Nat.zero_add]
   have hlt:i < vals.length:=(List.getElem?_eq_some_iff.1 hu).1
   rw [← h4,List.getElem?_take_of_lt hlt] at hu
   simpa using hu
  ·rw [hu];exact .base _
end
end Go.Proofs.YtndbhhgmpjjjhaaGreatDoor
namespace Go.Proofs.YtndbhhgmpjjjhaaGreatDoor
open Go.RowKit Go.Shelf
def Tryz.keysI_ren:Go.Shelf.Ren:=⟨fun|7=>40|10=>78|n=>n,fun|23=>114|26=>3|3=>4|28=>117|0=>0|27=>116|33=>164|4=>4|n=>n,fun|n=>n⟩
theorem Tryz.keysI:Go.Proofs.SlLaysZI.n7 Tryz.prog Tryz.keysI_ren:={
 mixed:=by kernel_rfl
 f7:=⟨Tryz.f40.name,by decide,Tryz.func40.trans (congrArg some (by kernel_rfl))⟩
 f10:=⟨Tryz.f78.name,by decide,Tryz.func78.trans (congrArg some (by kernel_rfl))⟩
 t0:=Tryz.underlying0
 a0:=Tryz.isAgg0
 z0:=Tryz.sizeOf0
 v0:=Tryz.zeroValue0
 t4:=Tryz.underlying4
 a4:=Tryz.isAgg4
 z4:=Tryz.sizeOf4
 v4:=Tryz.zeroValue4
 t23:=Tryz.underlying114
 a23:=Tryz.isAgg114
 z23:=Tryz.sizeOf114
 v23:=Tryz.zeroValue114
 t26:=Tryz.underlying3
 a26:=Tryz.isAgg3
 z26:=Tryz.sizeOf3
 v26:=Tryz.zeroValue3
 t27:=Tryz.underlying116
 a27:=Tryz.isAgg116
 z27:=Tryz.sizeOf116
 v27:=Tryz.zeroValue116
 t28:=Tryz.underlying117
 a28:=Tryz.isAgg117
 z28:=Tryz.sizeOf117
 v28:=Tryz.zeroValue117
 t33:=Tryz.underlying164
 a33:=Tryz.isAgg164
 z33:=Tryz.sizeOf164
 v33:=Tryz.zeroValue164 }
def Tryz.sortedI_ren:Go.Shelf.Ren:=⟨fun|6=>39|8=>76|9=>77|11=>135|13=>137|12=>136|23=>207|24=>208|14=>198|15=>199|16=>200|17=>201|18=>202|19=>203|20=>204|21=>205|22=>206|25=>269|26=>270|27=>271|28=>272|29=>273|30=>146|31=>314|n=>n,fun|26=>3|28=>117|24=>22|0=>0|3=>3|37=>75|48=>293|50=>32|4=>4|40=>287|39=>286|45=>39|5=>5|9=>9|51=>343|55=>144|57=>383|58=>360|33=>164|n=>n,fun|n=>n⟩
theorem Tryz.sortedI:Go.Proofs.SlLaysZI.n6 Tryz.prog Tryz.sortedI_ren:={
 mixed:=by kernel_rfl
 f6:=⟨Tryz.f39.name,by decide,Tryz.func39.trans (congrArg some (by kernel_rfl))⟩
 f8:=⟨Tryz.f76.name,by decide,Tryz.func76.trans (congrArg some (by kernel_rfl))⟩
 f11:=⟨Tryz.f135.name,by decide,Tryz.func135.trans (congrArg some (by kernel_rfl))⟩
 t0:=Tryz.underlying0
 a0:=Tryz.isAgg0
 z0:=Tryz.sizeOf0
 v0:=Tryz.zeroValue0
 t24:=Tryz.underlying22
 a24:=Tryz.isAgg22
 z24:=Tryz.sizeOf22
 v24:=Tryz.zeroValue22
 t26:=Tryz.underlying3
 a26:=Tryz.isAgg3
 z26:=Tryz.sizeOf3
 v26:=Tryz.zeroValue3
 t28:=Tryz.underlying117
 a28:=Tryz.isAgg117
 z28:=Tryz.sizeOf117
 v28:=Tryz.zeroValue117
 i26:=by kernel_rfl }
def Tryz.sortI_ren:Go.Shelf.Ren:=⟨fun|5=>77|8=>137|7=>136|19=>207|20=>208|10=>198|11=>199|12=>200|13=>201|14=>202|15=>203|16=>204|17=>205|18=>206|30=>269|31=>270|32=>271|33=>272|34=>273|35=>146|40=>314|n=>n,fun|23=>22|25=>3|3=>3|32=>75|22=>22|0=>0|44=>293|46=>32|4=>4|36=>287|35=>286|41=>39|5=>5|9=>9|53=>343|57=>144|63=>383|64=>360|n=>n,fun|n=>n⟩
theorem Tryz.sortI:Go.Proofs.SlLaysM.n5 Tryz.prog Tryz.sortI_ren:={
 mixed:=by kernel_rfl
 f5:=⟨Tryz.f77.name,by decide,Tryz.func77.trans (congrArg some (by kernel_rfl))⟩
 f7:=⟨Tryz.f136.name,by decide,Tryz.func136.trans (congrArg some (by kernel_rfl))⟩
 f8:=Tryz.func137.trans (congrArg some (by kernel_rfl))
 f10:=⟨Tryz.f198.name,by decide,Tryz.func198.trans (congrArg some (by kernel_rfl))⟩
 f11:=⟨Tryz.f199.name,by decide,Tryz.func199.trans (congrArg some (by kernel_rfl))⟩
 f12:=⟨Tryz.f200.name,by decide,Tryz.func200.trans (congrArg some (by kernel_rfl))⟩
 f13:=⟨Tryz.f201.name,by decide,Tryz.func201.trans (congrArg some (by kernel_rfl))⟩
 f14:=⟨Tryz.f202.name,by decide,Tryz.func202.trans (congrArg some (by kernel_rfl))⟩
 f15:=⟨Tryz.f203.name,by decide,Tryz.func203.trans (congrArg some (by kernel_rfl))⟩
 f16:=⟨Tryz.f204.name,by decide,Tryz.func204.trans (congrArg some (by kernel_rfl))⟩
 f17:=⟨Tryz.f205.name,by decide,Tryz.func205.trans (congrArg some (by kernel_rfl))⟩
 f18:=⟨Tryz.f206.name,by decide,Tryz.func206.trans (congrArg some (by kernel_rfl))⟩
 f19:=Tryz.func207.trans (congrArg some (by kernel_rfl))
 f20:=Tryz.func208.trans (congrArg some (by kernel_rfl))
 f30:=⟨Tryz.f269.name,by decide,Tryz.func269.trans (congrArg some (by kernel_rfl))⟩
 f31:=Tryz.func270.trans (congrArg some (by kernel_rfl))
 f32:=Tryz.func271.trans (congrArg some (by kernel_rfl))
 f33:=⟨Tryz.f272.name,by decide,Tryz.func272.trans (congrArg some (by kernel_rfl))⟩
 f34:=⟨Tryz.f273.name,by decide,Tryz.func273.trans (congrArg some (by kernel_rfl))⟩
 f35:=⟨Tryz.f146.name,by decide,Tryz.func146.trans (congrArg some (by kernel_rfl))⟩
 f40:=⟨Tryz.f314.name,by decide,Tryz.func314.trans (congrArg some (by kernel_rfl))⟩
 t0:=Tryz.underlying0
 a0:=Tryz.isAgg0
 z0:=Tryz.sizeOf0
 v0:=Tryz.zeroValue0
 t3:=Tryz.underlying3
 a3:=Tryz.isAgg3
 z3:=Tryz.sizeOf3
 v3:=Tryz.zeroValue3
 t4:=Tryz.underlying4
 a4:=Tryz.isAgg4
 z4:=Tryz.sizeOf4
 v4:=Tryz.zeroValue4
 t5:=Tryz.underlying5
 a5:=Tryz.isAgg5
 z5:=Tryz.sizeOf5
 v5:=Tryz.zeroValue5
 t9:=Tryz.underlying9
 a9:=Tryz.isAgg9
 z9:=Tryz.sizeOf9
 v9:=Tryz.zeroValue9
 t22:=Tryz.underlying22
 a22:=Tryz.isAgg22
 z22:=Tryz.sizeOf22
 v22:=Tryz.zeroValue22
 t23:=Tryz.underlying22
 a23:=Tryz.isAgg22
 z23:=Tryz.sizeOf22
 v23:=Tryz.zeroValue22
 t25:=Tryz.underlying3
 a25:=Tryz.isAgg3
 z25:=Tryz.sizeOf3
 v25:=Tryz.zeroValue3
 t32:=Tryz.underlying75
 a32:=Tryz.isAgg75
 z32:=Tryz.sizeOf75
 v32:=Tryz.zeroValue75
 t35:=Tryz.underlying286
 a35:=Tryz.isAgg286
 z35:=Tryz.sizeOf286
 v35:=Tryz.zeroValue286
 t36:=Tryz.underlying287
 a36:=Tryz.isAgg287
 z36:=Tryz.sizeOf287
 v36:=Tryz.zeroValue287
 t41:=Tryz.underlying39
 a41:=Tryz.isAgg39
 z41:=Tryz.sizeOf39
 v41:=Tryz.zeroValue39
 t44:=Tryz.underlying293
 a44:=Tryz.isAgg293
 z44:=Tryz.sizeOf293
 v44:=Tryz.zeroValue293
 t46:=Tryz.underlying32
 a46:=Tryz.isAgg32
 z46:=Tryz.sizeOf32
 v46:=Tryz.zeroValue32
 t53:=Tryz.underlying343
 a53:=Tryz.isAgg343
 z53:=Tryz.sizeOf343
 v53:=Tryz.zeroValue343
 t57:=Tryz.underlying144
 a57:=Tryz.isAgg144
 z57:=Tryz.sizeOf144
 v57:=Tryz.zeroValue144
 t63:=Tryz.underlying383
 a63:=Tryz.isAgg383
 z63:=Tryz.sizeOf383
 v63:=Tryz.zeroValue383
 t64:=Tryz.underlying360
 a64:=Tryz.isAgg360
 z64:=Tryz.sizeOf360
 v64:=Tryz.zeroValue360 }
def Tryz.keysS_ren:Go.Shelf.Ren:=⟨fun|7=>42|10=>81|n=>n,fun|23=>113|26=>9|3=>4|28=>121|0=>0|27=>120|33=>167|4=>4|n=>n,fun|n=>n⟩
theorem Tryz.keysS:Go.Proofs.SlLaysZ.n7 Tryz.prog Tryz.keysS_ren:={
 mixed:=by kernel_rfl
 f7:=⟨Tryz.f42.name,by decide,Tryz.func42.trans (congrArg some (by kernel_rfl))⟩
 f10:=⟨Tryz.f81.name,by decide,Tryz.func81.trans (congrArg some (by kernel_rfl))⟩
 t0:=Tryz.underlying0
 a0:=Tryz.isAgg0
 z0:=Tryz.sizeOf0
 v0:=Tryz.zeroValue0
 t4:=Tryz.underlying4
 a4:=Tryz.isAgg4
 z4:=Tryz.sizeOf4
 v4:=Tryz.zeroValue4
 t23:=Tryz.underlying113
 a23:=Tryz.isAgg113
 z23:=Tryz.sizeOf113
 v23:=Tryz.zeroValue113
 t26:=Tryz.underlying9
 a26:=Tryz.isAgg9
 z26:=Tryz.sizeOf9
 v26:=Tryz.zeroValue9
 t27:=Tryz.underlying120
 a27:=Tryz.isAgg120
 z27:=Tryz.sizeOf120
 v27:=Tryz.zeroValue120
 t28:=Tryz.underlying121
 a28:=Tryz.isAgg121
 z28:=Tryz.sizeOf121
 v28:=Tryz.zeroValue121
 t33:=Tryz.underlying167
 a33:=Tryz.isAgg167
 z33:=Tryz.sizeOf167
 v33:=Tryz.zeroValue167 }
def Tryz.sortedS_ren:Go.Shelf.Ren:=⟨fun|6=>41|8=>79|9=>80|11=>138|13=>137|12=>139|23=>207|24=>208|14=>209|15=>210|16=>211|17=>212|18=>213|19=>214|20=>215|21=>216|22=>217|25=>274|26=>270|27=>271|28=>275|29=>276|30=>277|31=>315|n=>n,fun|26=>9|28=>121|24=>55|0=>0|3=>3|37=>75|48=>293|50=>32|4=>4|40=>287|39=>286|45=>39|5=>5|9=>9|51=>343|55=>144|57=>383|58=>360|33=>167|n=>n,fun|n=>n⟩
theorem Tryz.sortedS:Go.Proofs.SlLaysZ.n6 Tryz.prog Tryz.sortedS_ren:={
 mixed:=by kernel_rfl
 f6:=⟨Tryz.f41.name,by decide,Tryz.func41.trans (congrArg some (by kernel_rfl))⟩
 f8:=⟨Tryz.f79.name,by decide,Tryz.func79.trans (congrArg some (by kernel_rfl))⟩
 f11:=⟨Tryz.f138.name,by decide,Tryz.func138.trans (congrArg some (by kernel_rfl))⟩
 t0:=Tryz.underlying0
 a0:=Tryz.isAgg0
 z0:=Tryz.sizeOf0
 v0:=Tryz.zeroValue0
 t24:=Tryz.underlying55
 a24:=Tryz.isAgg55
 z24:=Tryz.sizeOf55
 v24:=Tryz.zeroValue55
 t26:=Tryz.underlying9
 a26:=Tryz.isAgg9
 z26:=Tryz.sizeOf9
 v26:=Tryz.zeroValue9
 t28:=Tryz.underlying121
 a28:=Tryz.isAgg121
 z28:=Tryz.sizeOf121
 v28:=Tryz.zeroValue121
 i26:=by kernel_rfl }
def Tryz.sortS_ren:Go.Shelf.Ren:=⟨fun|6=>80|8=>137|9=>139|19=>207|20=>208|21=>209|22=>210|23=>211|24=>212|25=>213|26=>214|27=>215|28=>216|29=>217|36=>274|31=>270|32=>271|37=>275|38=>276|39=>277|41=>315|n=>n,fun|27=>55|29=>9|3=>3|32=>75|26=>55|0=>0|44=>293|46=>32|4=>4|36=>287|35=>286|41=>39|5=>5|9=>9|53=>343|57=>144|63=>383|64=>360|n=>n,fun|n=>n⟩
theorem Tryz.sortS:Go.Proofs.SlLaysM.n6 Tryz.prog Tryz.sortS_ren:={
 mixed:=by kernel_rfl
 f6:=⟨Tryz.f80.name,by decide,Tryz.func80.trans (congrArg some (by kernel_rfl))⟩
 f8:=Tryz.func137.trans (congrArg some (by kernel_rfl))
 f9:=⟨Tryz.f139.name,by decide,Tryz.func139.trans (congrArg some (by kernel_rfl))⟩
 f19:=Tryz.func207.trans (congrArg some (by kernel_rfl))
 f20:=Tryz.func208.trans (congrArg some (by kernel_rfl))
 f21:=⟨Tryz.f209.name,by decide,Tryz.func209.trans (congrArg some (by kernel_rfl))⟩
 f22:=⟨Tryz.f210.name,by decide,Tryz.func210.trans (congrArg some (by kernel_rfl))⟩
 f23:=⟨Tryz.f211.name,by decide,Tryz.func211.trans (congrArg some (by kernel_rfl))⟩
 f24:=⟨Tryz.f212.name,by decide,Tryz.func212.trans (congrArg some (by kernel_rfl))⟩
 f25:=⟨Tryz.f213.name,by decide,Tryz.func213.trans (congrArg some (by kernel_rfl))⟩
 f26:=⟨Tryz.f214.name,by decide,Tryz.func214.trans (congrArg some (by kernel_rfl))⟩
 f27:=⟨Tryz.f215.name,by decide,Tryz.func215.trans (congrArg some (by kernel_rfl))⟩
 f28:=⟨Tryz.f216.name,by decide,Tryz.func216.trans (congrArg some (by kernel_rfl))⟩
 f29:=⟨Tryz.f217.name,by decide,Tryz.func217.trans (congrArg some (by kernel_rfl))⟩
 f31:=Tryz.func270.trans (congrArg some (by kernel_rfl))
 f32:=Tryz.func271.trans (congrArg some (by kernel_rfl))
 f36:=⟨Tryz.f274.name,by decide,Tryz.func274.trans (congrArg some (by kernel_rfl))⟩
 f37:=⟨Tryz.f275.name,by decide,Tryz.func275.trans (congrArg some (by kernel_rfl))⟩
 f38:=⟨Tryz.f276.name,by decide,Tryz.func276.trans (congrArg some (by kernel_rfl))⟩
 f39:=⟨Tryz.f277.name,by decide,Tryz.func277.trans (congrArg some (by kernel_rfl))⟩
 f41:=⟨Tryz.f315.name,by decide,Tryz.func315.trans (congrArg some (by kernel_rfl))⟩
 t0:=Tryz.underlying0
 a0:=Tryz.isAgg0
 z0:=Tryz.sizeOf0
 v0:=Tryz.zeroValue0
 t3:=Tryz.underlying3
 a3:=Tryz.isAgg3
 z3:=Tryz.sizeOf3
 v3:=Tryz.zeroValue3
 t4:=Tryz.underlying4
 a4:=Tryz.isAgg4
 z4:=Tryz.sizeOf4
 v4:=Tryz.zeroValue4
 t5:=Tryz.underlying5
 a5:=Tryz.isAgg5
 z5:=Tryz.sizeOf5
 v5:=Tryz.zeroValue5
 t9:=Tryz.underlying9
 a9:=Tryz.isAgg9
 z9:=Tryz.sizeOf9
 v9:=Tryz.zeroValue9
 t26:=Tryz.underlying55
 a26:=Tryz.isAgg55
 z26:=Tryz.sizeOf55
 v26:=Tryz.zeroValue55
 t27:=Tryz.underlying55
 a27:=Tryz.isAgg55
 z27:=Tryz.sizeOf55
 v27:=Tryz.zeroValue55
 t29:=Tryz.underlying9
 a29:=Tryz.isAgg9
 z29:=Tryz.sizeOf9
 v29:=Tryz.zeroValue9
 t32:=Tryz.underlying75
 a32:=Tryz.isAgg75
 z32:=Tryz.sizeOf75
 v32:=Tryz.zeroValue75
 t35:=Tryz.underlying286
 a35:=Tryz.isAgg286
 z35:=Tryz.sizeOf286
 v35:=Tryz.zeroValue286
 t36:=Tryz.underlying287
 a36:=Tryz.isAgg287
 z36:=Tryz.sizeOf287
 v36:=Tryz.zeroValue287
 t41:=Tryz.underlying39
 a41:=Tryz.isAgg39
 z41:=Tryz.sizeOf39
 v41:=Tryz.zeroValue39
 t44:=Tryz.underlying293
 a44:=Tryz.isAgg293
 z44:=Tryz.sizeOf293
 v44:=Tryz.zeroValue293
 t46:=Tryz.underlying32
 a46:=Tryz.isAgg32
 z46:=Tryz.sizeOf32
 v46:=Tryz.zeroValue32
 t53:=Tryz.underlying343
 a53:=Tryz.isAgg343
 z53:=Tryz.sizeOf343
 v53:=Tryz.zeroValue343
 t57:=Tryz.underlying144
 a57:=Tryz.isAgg144
 z57:=Tryz.sizeOf144
 v57:=Tryz.zeroValue144
 t63:=Tryz.underlying383
 a63:=Tryz.isAgg383
 z63:=Tryz.sizeOf383
 v63:=Tryz.zeroValue383
 t64:=Tryz.underlying360
 a64:=Tryz.isAgg360
 z64:=Tryz.sizeOf360
 v64:=Tryz.zeroValue360 }
end Go.Proofs.YtndbhhgmpjjjhaaGreatDoor
namespace Go.Proofs.YtndbhhgmpjjjhaaGreatDoor
open Go.RowKit Go.Maps Go.Sort Go.Shelf
theorem sortsI (m:Nat):AnyZI.SortsIn Tryz.prog Tryz.sortedI_ren Fence.wide m :=
 ⟨fun blk off cap ss W hH hblk hsz=>callsIn_wide.2 (AnyM.slices_Sort_int Tryz.sortI blk off cap ss W hH hblk hsz),
  fun p cap W=>callsIn_wide.2 (AnyM.slices_Sort_int_none Tryz.sortI p cap W)⟩
theorem keysI_calls (mb:Option Nat) (W:World):Calls Tryz.prog 40 #[.map mb] W fun e w'=>e=.returned (.func (.func 78) #[] #[.pointer (some ⟨W.heap.size,0,none⟩)])∧w'=W.alloc (.cells #[.map mb] 114) :=
 (callsIn_wide (n:=5)).1 (AnyZI.keys_in Tryz.keysI Fence.wide 5 trivial rfl mb W)
def anyR:Value→Option (DataW Unit × List MemPlace):=fun _=>some (.nil,[])
theorem lok_stamped {kd:Value→Prop} {ks vs:List Value} {es:Array MapEntry} {clock:Nat} (h:LOk kd ks vs es clock):MapKept.Stamped es clock:=by
 have hget:∀ (i:Nat) e,es.toList[i]?=some e→ks[i]?=some e.key∧e.born=i:=fun i e hi=>by
  obtain ⟨h1,_,h3,_⟩:=h.ent i e (by simpa using hi)
  exact ⟨h1,h3⟩
 have hl:es.toList.length=ks.length:=by simpa using h.size
 refine ⟨fun x hx=>?_,?_,?_⟩
 ·obtain ⟨i,hi⟩:=List.getElem?_of_mem hx
  rw [(hget i x hi).2,h.clk]
  exact (List.getElem?_eq_some_iff.1 (hget i x hi).1).1
 ·have:es.toList.map (·.born)=List.range ks.length:=by
   apply List.ext_getElem?
   intro i
   rw [List.getElem?_map]
   by_cases hi:i < ks.length
   ·have h1:es.toList[i]?=some (es.toList[i]'(by omega)):=List.getElem?_eq_getElem (by omega)
    rw [h1,List.getElem?_range hi]
    simp only [Option.map_some]
    rw [(hget i _ h1).2]
   ·rw [List.getElem?_eq_none (by omega),List.getElem?_eq_none (by simp;omega)];rfl
  rw [this];exact List.nodup_range
 ·have:es.toList.map (·.key)=ks:=by
   apply List.ext_getElem?
   intro i
   rw [List.getElem?_map]
   by_cases hi:i < ks.length
   ·have h1:es.toList[i]?=some (es.toList[i]'(by omega)):=List.getElem?_eq_getElem (by omega)
    rw [h1]
    exact (hget i _ h1).1.symm
   ·rw [List.getElem?_eq_none (by omega),List.getElem?_eq_none (by omega)];rfl
  rw [this];exact h.nd
open Go.WideElems (Fit rg rd_mk rg_of) in
theorem fitK {k:TypeId} {kd:Value→Prop} {ks vs:List Value} {es:Array MapEntry} {clock:Nat} (h:LOk kd ks vs es clock) (kl:Value→Lit) (hk:∀ v∈ks,keyOf Tryz.prog k v=some (kl v)) (hl:ks.length≤1000):Fit Tryz.prog k anyR es clock∧es.toList.map (rg Tryz.prog k anyR)=ks.map fun v=>(kl v,DataW.nil):=by
 have hget:∀ (i:Nat) e,es.toList[i]?=some e→ks[i]?=some e.key:=fun i e hi=>(h.ent i e (by simpa using hi)).1
 have hlen:es.toList.length=ks.length:=by simpa using h.size
 have hrd:∀ e∈es.toList,Go.WideElems.rd Tryz.prog k anyR e=some (kl e.key,DataW.nil):=fun e he=>by
  obtain ⟨i,hi⟩:=List.getElem?_of_mem he
  obtain ⟨key,val,born⟩:=e
  exact rd_mk (hk key (List.mem_of_getElem? (hget i _ hi))) (yv:=(.nil,[])) rfl
 refine ⟨⟨by rw [h.size];exact Nat.le_trans hl (by decide),lok_stamped h,fun e he=>⟨_,hrd e he⟩⟩,?_⟩
 apply List.ext_getElem?
 intro i
 rw [List.getElem?_map,List.getElem?_map]
 by_cases hi:i < ks.length
 ·have h1:es.toList[i]?=some (es.toList[i]'(by omega)):=List.getElem?_eq_getElem (by omega)
  rw [h1,hget i _ h1]
  simp only [Option.map_some]
  rw [rg_of (hrd _ (List.getElem_mem _))]
 ·rw [List.getElem?_eq_none (by omega),List.getElem?_eq_none (by omega)];rfl
def klV:Value→Lit
 | .int q z=>.int q z
 | .string s=>.string s.data.toList
 | _=>.bool false
theorem permI {H:Type} (l:List Int):(intKeys (H:=H) (.map ((l.map encZ).map (fun v=>(klV v,DataW.nil)) |>.foldr DataW.insert []))).Perm l:=by
 have h:=(Go.WideShapes.sorted_perm (H:=H) ((l.map encZ).map fun v=>(klV v,DataW.nil))).map fun p=>Go.intOf p.1
 refine h.trans (.of_eq ?_)
 rw [List.map_map,List.map_map]
 exact (List.map_congr_left fun z _=>rfl).trans (List.map_id l)
theorem sizeD {H:Type} (l:List (Lit × DataW H)):Maps.size (.map (l.foldr DataW.insert []))=l.length:=(Go.WideShapes.sorted_perm l).length_eq
set_option maxHeartbeats 1000000 in
theorem sortedI_calls (l:List Int) (hw:∀ z∈l,(Lit.int .i64 z).wf=true) (hl:l.length≤1000) {kd:Value→Prop} {vs:List Value} (W:World) (b bm:Nat) (es:Array MapEntry) (clock:Nat) (hc:W.cell? ⟨bm,0,none⟩=some (.map (some b))) (hb:W.heap[b]?=some (.map es clock)) (hm:LOk kd (l.map encZ) vs es clock) :
 Calls Tryz.prog 39 #[.func (.func 78) #[] #[.pointer (some ⟨bm,0,none⟩)]] W fun e w'=>∃ v,e=.returned v∧Below W.heap.size W w' ∧
  ((v=.slice none 0 0∧(l.mergeSort leI).map encZ=[])∨∃ gb cap cur ty,v=.slice (some ⟨gb,0,none⟩) ((l.mergeSort leI).map encZ).length cap∧W.heap.size≤gb∧w'.heap[gb]?=some (.cells cur ty (0,0))∧((l.mergeSort leI).map encZ).length≤cap∧cur.toList.take ((l.mergeSort leI).map encZ).length=(l.mergeSort leI).map encZ):=by
 have hki:Tryz.prog.underlying 3=some (.int .i64):=Tryz.underlying3
 obtain ⟨F,hrg⟩:=fitK (k:=3) hm klV (fun v hv=>by
  obtain ⟨z,hz,rfl⟩:=List.mem_map.1 hv
  exact keyOf_int_mk hki (hw z hz)) (by simpa using hl)
 have hown:=World.ownsMap_of_fit (R:=anyR) hb F (fun _ _ _ h=>h)
 rw [hrg] at hown
 have hsz:=sizeD ((l.map encZ).map fun v=>(klV v,(DataW.nil:DataW Unit)))
 have hbm:bm < W.heap.size:=World.block_lt_of_cell? W _ hc
 have hseq:=AnyZI.keys_gives (ρ:=Tryz.keysI_ren) { Tryz.keysI with } Fence.wide 2 trivial rfl (by omega) bm b _ _ W hbm hc hown
 have cS:=AnyZI.sorted_in Tryz.sortedI Fence.wide 5 trivial trivial trivial trivial rfl (by omega) (sortsI _) (enters_of Tryz.func77 (by kernel_rfl) rfl) 78 #[.pointer (some ⟨bm,0,none⟩)] trivial (enters_of Tryz.func78 (by kernel_rfl) rfl) _ _ (by rw [hsz];simp;exact Nat.le_trans hl (by decide)) (by rw [hsz];simp;omega) W hseq
 refine ((callsIn_wide (n:=5)).1 cS).mono ?_
 rintro e w' ⟨v,ss,rfl,hp,⟨hx1,hrow⟩,_,hbel⟩
 have hms:ss.mergeSort (fun x y=>decide (x≤y))=l.mergeSort leI:=mergeSort_of_perm_i (hp.trans (permI l))
 have hsl:ss.length=((l.mergeSort leI).map encZ).length:=by
  rw [← hms,List.length_map];exact (List.mergeSort_perm ss _).length_eq.symm
 rw [hms] at hrow
 refine ⟨v,rfl,hbel,?_⟩
 rcases hrow with ⟨rfl,h0⟩|⟨gb,cap,cur,rfl,h1,h2,h3,_,_,h4⟩
 ·exact .inl ⟨rfl,List.length_eq_zero_iff.1 (by omega)⟩
 ·refine .inr ⟨gb,cap,cur,_,by rw [hsl],h1,h2,by omega,?_⟩
  rw [Nat.mul_one,hsl] at h4
  exact h4
theorem sortsS (m:Nat):AnyZ.SortsIn Tryz.prog Tryz.sortedS_ren Fence.wide m :=
 ⟨fun blk off cap ss W hH hblk hsz=>callsIn_wide.2 (AnyM.slices_Sort_string Tryz.sortS blk off cap ss W hH hblk hsz),
  fun p cap W=>callsIn_wide.2 (AnyM.slices_Sort_string_none Tryz.sortS p cap W)⟩
theorem keysS_calls (mb:Option Nat) (W:World):Calls Tryz.prog 42 #[.map mb] W fun e w'=>e=.returned (.func (.func 81) #[] #[.pointer (some ⟨W.heap.size,0,none⟩)])∧w'=W.alloc (.cells #[.map mb] 113) :=
 (callsIn_wide (n:=5)).1 (AnyZ.keys_in Tryz.keysS Fence.wide 5 trivial rfl mb W)
theorem permS {H:Type} (l:List (List UInt8)):(strKeys (H:=H) (.map ((l.map encStr).map (fun v=>(klV v,DataW.nil)) |>.foldr DataW.insert []))).Perm l:=by
 have h:=(Go.WideShapes.sorted_perm (H:=H) ((l.map encStr).map fun v=>(klV v,DataW.nil))).map fun p=>Go.strOf p.1
 refine h.trans (.of_eq ?_)
 rw [List.map_map,List.map_map]
 exact (List.map_congr_left fun z _=>rfl).trans (List.map_id l)
set_option maxHeartbeats 1000000 in
theorem sortedS_calls (l:List (List UInt8)) (hw:∀ z∈l,z.length≤maxLen) (hl:l.length≤1000) {kd:Value→Prop} {vs:List Value} (W:World) (b bm:Nat) (es:Array MapEntry) (clock:Nat) (hc:W.cell? ⟨bm,0,none⟩=some (.map (some b))) (hb:W.heap[b]?=some (.map es clock)) (hm:LOk kd (l.map encStr) vs es clock) :
 Calls Tryz.prog 41 #[.func (.func 81) #[] #[.pointer (some ⟨bm,0,none⟩)]] W fun e w'=>∃ v,e=.returned v∧Below W.heap.size W w' ∧
  ((v=.slice none 0 0∧(l.mergeSort leB).map encStr=[])∨∃ gb cap cur ty,v=.slice (some ⟨gb,0,none⟩) ((l.mergeSort leB).map encStr).length cap∧W.heap.size≤gb∧w'.heap[gb]?=some (.cells cur ty (0,0))∧((l.mergeSort leB).map encStr).length≤cap∧cur.toList.take ((l.mergeSort leB).map encStr).length=(l.mergeSort leB).map encStr):=by
 have hki:Tryz.prog.underlying 9=some .string:=Tryz.underlying9
 obtain ⟨F,hrg⟩:=fitK (k:=9) hm klV (fun v hv=>by
  obtain ⟨z,hz,rfl⟩:=List.mem_map.1 hv
  exact Go.WideMaps.keyOf_string_mk hki (s:=⟨z.toArray⟩) (hw z hz)) (by simpa using hl)
 have hown:=World.ownsMap_of_fit (R:=anyR) hb F (fun _ _ _ h=>h)
 rw [hrg] at hown
 have hsz:=sizeD ((l.map encStr).map fun v=>(klV v,(DataW.nil:DataW Unit)))
 have hbm:bm < W.heap.size:=World.block_lt_of_cell? W _ hc
 have hseq:=AnyZ.keys_gives (ρ:=Tryz.keysS_ren) { Tryz.keysS with } Fence.wide 2 trivial rfl (by omega) bm b _ _ W hbm hc hown
 have cS:=AnyZ.sorted_in Tryz.sortedS Fence.wide 5 trivial trivial trivial trivial rfl (by omega) (sortsS _) (enters_of Tryz.func80 (by kernel_rfl) rfl) 81 #[.pointer (some ⟨bm,0,none⟩)] trivial (enters_of Tryz.func81 (by kernel_rfl) rfl) _ _ (by rw [hsz];simp;exact Nat.le_trans hl (by decide)) (by rw [hsz];simp;omega) W hseq
 refine ((callsIn_wide (n:=5)).1 cS).mono ?_
 rintro e w' ⟨v,ss,rfl,hp,⟨hx1,hrow⟩,_,hbel⟩
 have hms:ss.mergeSort (fun x y=>decide (x≤y))=l.mergeSort leB:=mergeSort_of_perm (hp.trans (permS l))
 have hsl:ss.length=((l.mergeSort leB).map encStr).length:=by
  rw [← hms,List.length_map];exact (List.mergeSort_perm ss _).length_eq.symm
 rw [hms] at hrow
 refine ⟨v,rfl,hbel,?_⟩
 rcases hrow with ⟨rfl,h0⟩|⟨gb,cap,cur,rfl,h1,h2,h3,_,_,h4⟩
 ·exact .inl ⟨rfl,List.length_eq_zero_iff.1 (by omega)⟩
 ·refine .inr ⟨gb,cap,cur,_,by rw [hsl],h1,h2,by omega,?_⟩
  rw [Nat.mul_one,hsl] at h4
  exact h4
end Go.Proofs.YtndbhhgmpjjjhaaGreatDoor
