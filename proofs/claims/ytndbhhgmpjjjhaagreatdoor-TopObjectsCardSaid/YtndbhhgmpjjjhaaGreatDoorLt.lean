/-
  Tables, nil or not, in one form; what is greatest among those that cover. The registry that is drawn. The listed variables hold what the abstract machine says they hold; a variable that is named only holds some number; lists of numbers, as they come in.
-/
import Derived.Test.YtndbhhgmpjjjhaaGreatDoorVs
import Derived.Test.YtndbhhgmpjjjhaaGreatDoorVx
import Derived.Test.YtndbhhgmpjjjhaaGreatDoorMab
import Derived.Test.YtndbhhgmpjjjhaaGreatDoorGt
import Derived.Test.YtndbhhgmpjjjhaaGreatDoorJd
import Derived.Test.YtndbhhgmpjjjhaaGreatDoorCards
import Derived.Test.YtndbhhgmpjjjhaaGreatDoorTie
import Derived.SevenTiedAt
import Derived.LaidMore
import Derived.LaidHandle
import Derived.OpenShut
import Derived.Lay
import Derived.Shelf.Vars
namespace Go.Proofs.YtndbhhgmpjjjhaaGreatDoor
open Go.RowKit
def tAV (t:List Ent):AV:=if t=[] then .nils else .isl (entsC t) t.length
theorem tAV_cons {t:List Ent} (h:t≠[]):tAV t=.isl (entsC t) t.length:=if_neg h
theorem put_ne (t:List Ent) (p:Pre) (v:Int):putE t p v≠[]:=by
 unfold putE
 split
 ·rename_i h
  obtain ⟨h,_⟩:=hit_at h
  intro e
  have:=congrArg List.length e
  simp at this
  subst this
  simp at h
 ·simp
theorem get_tab (t:List Ent) (p:Pre) (h:TabP t):AFn Tryz.prog 8 0 [tAV t,.agg (preC p)] mt (.tup [.base (.int .i64 (getE t p)),.base (.bool (hitE t p))]) mt:=by
 unfold tAV
 split
 ·rename_i e;subst e;exact get_nil p
 ·exact get_any t p h
theorem put_tab (t:List Ent) (p:Pre) (v:Int) (h:TabP t) (hl:t.length < 512) (hp:PreOk p):AFn Tryz.prog 9 0 [tAV t,.agg (preC p),.base (.int .i64 v)] mt (.tup [tAV (putE t p v),.base (.int .i64 0)]) mt:=by
 rw [tAV_cons (put_ne t p v)]
 unfold tAV
 split
 ·rename_i e;subst e;exact put_nil p v hp
 ·rename_i e
  have h0:0 < t.length:=List.length_pos_iff.2 e
  cases hh:hitE t p with
  | false=>exact put_new t p v h h0 hl hp hh
  | true=>exact put_hit t p v h hp hh
theorem covering_tab (t:List Ent) (p:Pre) (h:TabP t):AFn Tryz.prog 13 0 [tAV t,.agg (preC p)] mt (.isl (entsC (covE t p)) (covE t p).length) mt:=by
 unfold tAV
 split
 ·rename_i e;subst e;exact covering_nil p
 ·exact covering_any t p h
theorem TabP.put {t:List Ent} {p:Pre} {v:Int} (h:TabP t) (hl:t.length < 512) (hp:PreOk p):TabP (putE t p v):=by
 refine ⟨put_sorted h.sorted,fun e he=>?_,?_⟩
 ·rcases (put_mem h.sorted e).1 he with h1|⟨h1,_⟩
  ·rw [h1];exact hp
  ·exact h.ok e h1
 ·have:=put_len (t:=t) (p:=p) (v:=v);omega
def mostL:List Ent→Int→Int
 | [],m=>m
 | e::t,m=>mostL t (max m e.v)
theorem mostL_cov (p:Pre):∀ (t:List Ent) (m:Int),mostL (covE t p) m=mostE cvP p t m:=by
 intro t
 induction t with
 | nil=>intro m;rfl
 | cons e t ih =>
  intro m
  unfold covE mostE
  rw [List.filter_cons]
  split
  ·unfold mostL;exact ih _
  ·exact ih _
theorem ent_tk {t:List Ent} {k:Nat} (h:k < t.length):Tk (entsC t) (k * 5) 5 (entC t[k]):=flat_tk (c:=entC) (fun _=>rfl) h
def intsC (l:List Int):List AV:=l.map fun z=>.base (.int .i64 z)
theorem intsC_len (l:List Int):(intsC l).length=l.length:=by simp [intsC]
theorem intsC_pure (l:List Int):(intsC l).all AV.pure1=true:=by
 induction l with
 | nil=>rfl
 | cons x l ih=>exact ih
theorem ints_tk {l:List Int} {n:Nat} (h:l.length=n):Tk (intsC l) 0 (n * 1) (intsC l):=by
 rw [Nat.mul_one,← h,← intsC_len l];exact Tk.all _
def asN:Nat→ByteArray
 | 0=>⟨#[65,83,45,65]⟩
 | 1=>⟨#[65,83,45,66]⟩
 | 2=>⟨#[65,83,45,67]⟩
 | 3=>⟨#[65,83,45,68]⟩
 | _=>⟨#[65,83,45,69]⟩
structure SetR where
 k:Nat
 asns:List Int
 sets:List Nat
def strsC (l:List Nat):List AV:=l.map fun j=>.base (.string (asN j))
def setC (s:SetR):List AV:=[.base (.string (asN s.k)),.isl (intsC s.asns) s.asns.length,.isl (strsC s.sets) s.sets.length]
def setsC (l:List SetR):List AV:=l.flatMap setC
def regC (ss:List SetR) (os:List ObjR):List AV:=[.isl (setsC ss) ss.length,.isl (objsC os) os.length]
structure SetOk (s:SetR):Prop where
 al:s.asns.length≤3
 a:∀ x∈s.asns,1≤x∧x≤6
 sl:s.sets.length≤3
 s:∀ j∈s.sets,j < 5
structure SetsOk (ss:List SetR):Prop where
 len:ss.length≤4
 ok:∀ s∈ss,SetOk s
 k:∀ (i:Nat) s,ss[i]?=some s→s.k=i
structure ObjsOk (os:List ObjR):Prop where
 len:os.length≤11
 ok:∀ o∈os,ObjOk o
theorem strsC_pure (l:List Nat):(strsC l).all AV.pure1=true:=by
 induction l with
 | nil=>rfl
 | cons x l ih=>exact ih
theorem strsC_len (l:List Nat):(strsC l).length=l.length:=by simp [strsC]
theorem setsC_pure (l:List SetR):(setsC l).all AV.pure1=true:=by
 induction l with
 | nil=>rfl
 | cons x l ih =>
  rw [show setsC (x::l)=setC x++setsC l from rfl,List.all_append,ih]
  rfl
theorem setsC_app (a b:List SetR):setsC (a++b)=setsC a++setsC b:=by simp [setsC]
theorem setsC_len (l:List SetR):(setsC l).length=l.length * 3:=by
 induction l with
 | nil=>rfl
 | cons x l ih=>rw [show setsC (x::l)=setC x++setsC l from rfl,List.length_append,ih];simp [setC];omega
theorem objsC_app (a b:List ObjR):objsC (a++b)=objsC a++objsC b:=by simp [objsC]
theorem strs_tk {l:List Nat} {n:Nat} (h:l.length=n):Tk (strsC l) 0 (n * 1) (strsC l):=by
 rw [Nat.mul_one,← h,← strsC_len l];exact Tk.all _
theorem sets_all {l:List SetR} {n:Nat} (h:l.length=n):Tk (setsC l) 0 (n * 3) (setsC l):=by
 rw [← h,← setsC_len l];exact Tk.all _
theorem objs_all {l:List ObjR} {n:Nat} (h:l.length=n):Tk (objsC l) 0 (n * 6) (objsC l):=flatAll (c:=objC) (fun _=>rfl) h
theorem objsC_pure (l:List ObjR):(objsC l).all AV.pure1=true:=by
 induction l with
 | nil=>rfl
 | cons x l ih =>
  rw [show objsC (x::l)=objC x++objsC l from rfl,List.all_append,ih]
  rfl
def nms:List AV:=[.base (.string ⟨#[65,83,45,65]⟩),.base (.string ⟨#[65,83,45,66]⟩),.base (.string ⟨#[65,83,45,67]⟩),.base (.string ⟨#[65,83,45,68]⟩),.base (.string ⟨#[65,83,45,69]⟩)]
theorem nms_at {j:Nat} (h:j < 5):nms[0 + j * 1]?=some (.base (.string (asN j))):=by
 match j,h with
 | 0,_=>rfl
 | 1,_=>rfl
 | 2,_=>rfl
 | 3,_=>rfl
 | 4,_=>rfl
theorem SetsOk.nil:SetsOk []:=⟨Nat.zero_le _,fun s h=>(by cases h),fun i s h=>(by simp at h)⟩
theorem SetsOk.snoc {ss:List SetR} {k:Nat} {as_:List Int} {sl:List Nat} (h:SetsOk ss) (hk:ss.length=k) (h4:k < 4) (ho:SetOk ⟨k,as_,sl⟩):SetsOk (ss++[⟨k,as_,sl⟩]):=by
 refine ⟨by simp;omega,fun s hs=>?_,fun i s hi=>?_⟩
 ·rcases List.mem_append.1 hs with h1|h1
  ·exact h.ok s h1
  ·rw [List.mem_singleton] at h1;subst h1;exact ho
 ·rcases Nat.lt_trichotomy i ss.length with h1|h1|h1
  ·rw [List.getElem?_append_left h1] at hi;exact h.k i s hi
  ·rw [h1,List.getElem?_concat_length] at hi;injection hi with hi;subst hi;show k=i;omega
  ·rw [List.getElem?_eq_none (by simp;omega)] at hi;cases hi
theorem ints_snocR (as_:List Int) (a:Int):intsC as_++[AV.base (.int .i64 a)]=intsC (as_++[a]):=by simp [intsC]
theorem strs_snocR (l:List Nat) (j:Nat):strsC l++[AV.base (.string (asN j))]=strsC (l++[j]):=by simp [strsC]
theorem memR {α:Type} {p:α→Prop} {l:List α} {a:α} (h:∀ x∈l,p x) (ha:p a):∀ x∈l++[a],p x:=fun x hx=>by
 rcases List.mem_append.1 hx with h1|h1
 ·exact h x h1
 ·rw [List.mem_singleton] at h1;subst h1;exact ha
theorem nextC (l:List Int) (a:Nat) (n:Int) (h:1≤n) (h2:n≤9223372036854775807) (hl:l.length≤9223372036854775807):∃ x b:Nat,(x:Int) < n∧AFn Tryz.prog 12 1 [.own 0 0,.base (.int .i64 n)] (up mt 0 (some (deckC l a))) (.base (.int .i64 (x:Int))) (up mt 0 (some (deckC l b))):=by
 have hb:=nextV_bd l a n h
 have h1:=next_any l a n h h2 hl
 obtain ⟨x,hx⟩:∃ x:Nat,nextV l a n=(x:Int):=⟨(nextV l a n).toNat,by omega⟩
 rw [hx] at h1 hb
 exact ⟨x,_,hb.2,h1⟩
set_option maxHeartbeats 2000000 in
theorem registry_any (l:List Int) (at_:Nat) (hl:l.length≤9223372036854775807) :
 ∃ v H',AFn Tryz.prog 6 1 [.own 0 0] (up mt 0 (some (deckC l at_))) v H'∧∃ (ss:List SetR) (os:List ObjR) (at':Nat),(SetsOk ss∧ObjsOk os)∧v=.agg (regC ss os)∧H'=up mt 0 (some (deckC l at')):=by
 refine AFn.ex Tryz.func6 rfl rfl (Nat.le_of_ble_eq_true rfl) ?_
 obtain ⟨n0,a0,bn,hn⟩:=nextC l at_ 5 (by decide) (by decide) hl
 refine Wq<|qW 1 2 rfl<|qB rfl ty28<|Nl<|Wq<|qW 6 8 rfl<|Od rfl rfl (LO.buildSlice rfl ty55 ty9 (by decide) (by decide) (.cons rfl rfl rfl rfl (Sl rfl) (.cons rfl rfl rfl rfl (Sl rfl) (.cons rfl rfl rfl rfl (Sl rfl) (.cons rfl rfl rfl rfl (Sl rfl) (.cons rfl rfl rfl rfl (Sl rfl) .nil))))))<|qA rfl<|Nl<|Wq<|qW 12 13 rfl<|qB rfl ty28<|Nl<|Wq<|Wq<|qW 17 20 rfl<|qM rfl<|Od rfl rfl (C1 (fr:=[]) rfl rfl (hn) fok12 (.own rfl rfl (.cons rfl (.pure rfl) .nil)) rfl rfl rfl (Cn _ _) (by decide) rfl)<|qM rfl<|Nl<|Wb<|W.namec 20 (20 + 1) (q:=12) (j:=0) (sz:=3) rfl rfl (Sl rfl) (by decide) (by decide) (by decide)<|W.rename [(0,0),(1,1),(2,6),(3,12),(4,20)] 5 (T':=up (up (up (up (up (up mt 0 (some (.own 0 0))) 2 (some (.own 1 0))) 3 (some (.osl 2 0 5 1))) 4 (some (.own 3 0))) 12 (some (.base (.int .i64 (n0:Int))))) 13 (some (.base (.int .i64 (0:Int))))) (H':=up (up (up (up (up mt 0 (some (deckC l a0))) 1 (some ([.nils,.nils]))) 2 (some (nms))) 3 (some ([.osl 4 0 (([]:List SetR)).length 3,.nils]))) 4 (some (setsC (([]:List SetR))))) (by decide) ?_ ?_ ?_
 ·exact aU (lR rfl) (aU (lR rfl) (aU (lI rfl) (aU (lI rfl) (aU (lI rfl) (aU (lI rfl) aM)))))
 ·exact aU (kR rfl) (aU (kI rfl) (aU (kR rfl) (aU (kR rfl) (aU (kR rfl) aM))))
 refine W.loop_ind (α:=Nat × Nat × List SetR) (fun x=>n0 - x.1) 5 (fun x=>up (up (up (up (up (up mt 0 (some (.own 0 0))) 2 (some (.own 1 0))) 3 (some (.osl 2 0 5 1))) 4 (some (.own 3 0))) 12 (some (.base (.int .i64 (n0:Int))))) 13 (some (.base (.int .i64 (x.1:Int))))) (fun x=>up (up (up (up (up mt 0 (some (deckC l x.2.1))) 1 (some ([.nils,.nils]))) 2 (some (nms))) 3 (some ([.osl 4 0 x.2.2.length 3,.nils]))) 4 (some (setsC x.2.2))) (fun x=>x.1≤n0∧x.2.2.length=x.1∧SetsOk x.2.2) (0,a0,(([]:List SetR))) (show 0≤n0∧(([]:List SetR)).length=0∧SetsOk (([]:List SetR)) from ⟨Nat.zero_le _,rfl,SetsOk.nil⟩) ?_
 rintro ⟨k,a,ss⟩ hIA ihA
 try (dsimp only at hIA)
 try dsimp only
 obtain ⟨hk,hlen,hss⟩:=hIA
 have hs4:=hss.len
 by_cases hc:k < n0
 ·have g1:decide ((k:Int) < (n0:Int))=true:=decide_eq_true (by omega)
  have hkk:(k:Int) + 1=((k + 1:Nat):Int):=by omega
  have hk4:k < 4:=by omega
  have hnm:=nms_at (j:=k) (by omega)
  obtain ⟨n1,a1,bn1,hn1⟩:=nextC l a 4 (by decide) (by decide) hl
  refine Wq<|qW 24 25 rfl<|qK rfl<|Nl<|Wq<|Wt rfl ‹_›<|Wu<|Wq<|Wb<|Wq<|qW 29 31 rfl<|qM rfl<|qA rfl<|Nl<|Wq<|qW 35 42 rfl<|qM rfl<|qM rfl<|Od rfl rfl (Ia rfl rfl rfl rfl ty55 ty9 (by omega))<|Od rfl rfl (Ld rfl rfl rfl hnm ty9 rfl)<|Od rfl rfl (Bs rfl ty65 (.cons rfl rfl rfl rfl (Sl rfl) .nil))<|qB rfl ty65<|qS rfl ty65 (Sl rfl) rfl<|Nl<|Wq<|Wq<|qW 46 49 rfl<|qM rfl<|Od rfl rfl (C1 (fr:=[]) rfl rfl (hn1) fok12 (.own rfl rfl (.cons rfl (.pure rfl) .nil)) rfl rfl rfl (Cn _ _) (by decide) rfl)<|qA rfl<|Nl<|Wb<|W.namec 49 (49 + 1) (q:=40) (j:=1) (sz:=1) rfl rfl (Sl rfl) (by decide) (by decide) (by decide)<|W.namec (49 + 1) (49 + 2) (q:=40) (j:=2) (sz:=1) rfl rfl (Sl rfl) (by decide) (by decide) (by decide)<|W.rename [(0,0),(1,1),(2,2),(3,3),(4,4),(5,40),(6,49),(7,(49 + 1))] 8 (T':=up (up (up (up (up (up (up (up mt 0 (some (.own 0 0))) 2 (some (.own 1 0))) 3 (some (.osl 2 0 5 1))) 4 (some (.own 3 0))) 6 (some (.own 5 0))) 7 (some (.base (.int .i64 ((n1:Int)))))) 12 (some (.base (.int .i64 (n0:Int))))) 13 (some (.base (.int .i64 (k:Int))))) (H':=up (up (up (up (up (up (up (up mt 0 (some (deckC l a1))) 1 (some ([.nils,.nils]))) 2 (some (nms))) 3 (some ([.osl 4 0 ss.length 3,.nils]))) 4 (some (setsC ss))) 5 (some ([.base (.string (asN k)),.osl 6 0 (([]:List Int)).length 1,.osl 7 0 0 1]))) 6 (some (intsC (([]:List Int))))) 7 (some ([]))) (by decide) ?_ ?_ ?_
  ·exact aU (lR rfl) (aU (lR rfl) (aU (lR rfl) (aU (lI rfl) (aU (lI rfl) (aU (lI rfl) (aU (lI rfl) (aU (lI rfl) aM)))))))
  ·exact aU (kR rfl) (aU (kR rfl) (aU (kI rfl) (aU (kP rfl (setsC_pure _)) (aU (kI rfl) (aU (kR rfl) (aU (kR rfl) (aU (kR rfl) aM)))))))
  refine W.loop_ind (α:=Int × Nat × List Int) (fun x=>x.1.toNat) 8 (fun x=>up (up (up (up (up (up (up (up mt 0 (some (.own 0 0))) 2 (some (.own 1 0))) 3 (some (.osl 2 0 5 1))) 4 (some (.own 3 0))) 6 (some (.own 5 0))) 7 (some (.base (.int .i64 x.1)))) 12 (some (.base (.int .i64 (n0:Int))))) 13 (some (.base (.int .i64 (k:Int))))) (fun x=>up (up (up (up (up (up (up (up mt 0 (some (deckC l x.2.1))) 1 (some ([.nils,.nils]))) 2 (some (nms))) 3 (some ([.osl 4 0 ss.length 3,.nils]))) 4 (some (setsC ss))) 5 (some ([.base (.string (asN k)),.osl 6 0 x.2.2.length 1,.osl 7 0 0 1]))) 6 (some (intsC x.2.2))) 7 (some ([]))) (fun x=>(0≤x.1∧x.2.2.length + x.1≤3)∧∀ z∈x.2.2,1≤z∧z≤6) (((n1:Int)),a1,(([]:List Int))) (show (0≤((n1:Int))∧(([]:List Int)).length + ((n1:Int))≤3)∧∀ z∈(([]:List Int)),1≤z∧z≤6 from ⟨⟨by omega,by simp;omega⟩,fun x h=>absurd h List.not_mem_nil⟩) ?_
  rintro ⟨n,b,as_⟩ hIB ihB
  try (dsimp only at hIB)
  try dsimp only
  obtain ⟨⟨hn0,hn3⟩,has⟩:=hIB
  by_cases hcb:0 < n
  ·have g2:decide (n > 0)=true:=decide_eq_true hcb
   obtain ⟨x,b1,bx,hx⟩:=nextC l b 6 (by decide) (by decide) hl
   refine Wq<|Wq<|qW 53 55 rfl<|qM rfl<|qGt rfl<|Nl<|Wt rfl ‹_›<|Wu<|Wq<|Wb<|Wd 59 68 (by decide) rfl mixed rfl<|qF rfl ty65 rfl<|qL rfl ty22 rfl<|qM rfl<|Od rfl rfl (C1 (fr:=[]) rfl rfl (hx) fok12 (.own rfl rfl (.cons rfl (.pure rfl) .nil)) rfl rfl rfl (Cn _ _) (by decide) rfl)<|qZ rfl (iW _ (by omega))<|Od rfl rfl (LO.buildSlice rfl ty22 ty3 (by decide) (by decide) (.cons rfl rfl rfl rfl (Sl rfl) .nil))<|Od rfl rfl (Lap rfl rfl (Sso rfl rfl (Tl rfl)) rfl (ints_tk rfl) ty22 ty22 ty3 (by decide) (by omega) (by omega) (by decide))<|qF rfl ty65 rfl<|qS rfl ty22 (Sl rfl) rfl<|Nl ⟨by kernel_rfl,(qW 72 75 rfl<|qM rfl<|Od rfl rfl (LO.sub_in rfl rfl rfl (iW _ (by omega)))<|qA rfl<|Nl ?_)⟩
   rw [ints_snocR,show as_.length + 1=(as_++[1 + (x:Int)]).length from by simp]
   refine WL.rename [(0,0),(1,1),(2,2),(3,3),(4,4),(5,5),(6,65),(7,7)] 8 (by decide) ?_ ?_ (ihB ((n - 1),b1,(as_++[1 + (x:Int)])) (show (n - 1).toNat < n.toNat from by omega) (show (0≤(n - 1)∧(as_++[1 + (x:Int)]).length + (n - 1)≤3)∧∀ z∈(as_++[1 + (x:Int)]),1≤z∧z≤6 from ⟨⟨by omega,by simp;omega⟩,memR has ⟨by omega,by omega⟩⟩))
   ·exact aU (lR rfl) (aU (lR rfl) (aU (lR rfl) (aU (lI rfl) (aU (lI rfl) (aU (lI rfl) (aU (lI rfl) (aU (lI rfl) aM)))))))
   ·exact aU (kR rfl) (aU (kP rfl (intsC_pure _)) (aU (kI rfl) (aU (kP rfl (setsC_pure _)) (aU (kI rfl) (aU (kR rfl) (aU (kR rfl) (aU (kR rfl) aM)))))))
  ·have g2:decide (n > 0)=false:=decide_eq_false hcb
   obtain ⟨n2,a2,bn2,hn2⟩:=nextC l b 4 (by decide) (by decide) hl
   have has3:as_.length≤3:=by omega
   clear ihB
   refine Wq<|Wq<|qW 53 55 rfl<|qM rfl<|qGt rfl<|Nl<|Wo rfl ‹_›<|Wx<|Wq<|Wq<|qW 79 82 rfl<|qM rfl<|Od rfl rfl (C1 (fr:=[]) rfl rfl (hn2) fok12 (.own rfl rfl (.cons rfl (.pure rfl) .nil)) rfl rfl rfl (Cn _ _) (by decide) rfl)<|qA rfl<|Nl<|Wb<|W.rename [(0,0),(1,1),(2,2),(3,3),(4,4),(5,5),(6,6),(7,7)] 8 (T':=up (up (up (up (up (up (up (up mt 0 (some (.own 0 0))) 2 (some (.own 1 0))) 3 (some (.osl 2 0 5 1))) 4 (some (.own 3 0))) 6 (some (.own 5 0))) 8 (some (.base (.int .i64 ((n2:Int)))))) 12 (some (.base (.int .i64 (n0:Int))))) 13 (some (.base (.int .i64 (k:Int))))) (H':=up (up (up (up (up (up (up (up mt 0 (some (deckC l a2))) 1 (some ([.nils,.nils]))) 2 (some (nms))) 3 (some ([.osl 4 0 ss.length 3,.nils]))) 4 (some (setsC ss))) 5 (some ([.base (.string (asN k)),.osl 6 0 as_.length 1,.osl 7 0 (([]:List Nat)).length 1]))) 6 (some (intsC as_))) 7 (some (strsC (([]:List Nat))))) (by decide) ?_ ?_ ?_
   ·exact aU (lR rfl) (aU (lR rfl) (aU (lR rfl) (aU (lI rfl) (aU (lI rfl) (aU (lI rfl) (aU (lI rfl) (aU (lI rfl) aM)))))))
   ·exact aU (kR rfl) (aU (kP rfl (intsC_pure _)) (aU (kI rfl) (aU (kP rfl (setsC_pure _)) (aU (kI rfl) (aU (kR rfl) (aU (kR rfl) (aU (kR rfl) aM)))))))
   refine W.loop_ind (α:=Int × Nat × List Nat) (fun x=>x.1.toNat) 8 (fun x=>up (up (up (up (up (up (up (up mt 0 (some (.own 0 0))) 2 (some (.own 1 0))) 3 (some (.osl 2 0 5 1))) 4 (some (.own 3 0))) 6 (some (.own 5 0))) 8 (some (.base (.int .i64 x.1)))) 12 (some (.base (.int .i64 (n0:Int))))) 13 (some (.base (.int .i64 (k:Int))))) (fun x=>up (up (up (up (up (up (up (up mt 0 (some (deckC l x.2.1))) 1 (some ([.nils,.nils]))) 2 (some (nms))) 3 (some ([.osl 4 0 ss.length 3,.nils]))) 4 (some (setsC ss))) 5 (some ([.base (.string (asN k)),.osl 6 0 as_.length 1,.osl 7 0 x.2.2.length 1]))) 6 (some (intsC as_))) 7 (some (strsC x.2.2))) (fun x=>(0≤x.1∧x.2.2.length + x.1≤3)∧∀ z∈x.2.2,z < 5) (((n2:Int)),a2,(([]:List Nat))) (show (0≤((n2:Int))∧(([]:List Nat)).length + ((n2:Int))≤3)∧∀ z∈(([]:List Nat)),z < 5 from ⟨⟨by omega,by simp;omega⟩,fun x h=>absurd h List.not_mem_nil⟩) ?_
   rintro ⟨n,b,sl⟩ hIC ihC
   try (dsimp only at hIC)
   try dsimp only
   obtain ⟨⟨hm0,hm3⟩,hsl⟩:=hIC
   by_cases hcc:0 < n
   ·have g3:decide (n > 0)=true:=decide_eq_true hcc
    obtain ⟨x,b1,bx,hx⟩:=nextC l b 5 (by decide) (by decide) hl
    have hx5:x < 5:=by omega
    have hnx:=nms_at hx5
    refine Wq<|Wq<|qW 86 88 rfl<|qM rfl<|qGt rfl<|Nl<|Wt rfl ‹_›<|Wu<|Wq<|Wb<|Wd 92 103 (by decide) rfl mixed rfl<|qF rfl ty65 rfl<|qL rfl ty55 rfl<|qM rfl<|qM rfl<|Od rfl rfl (C1 (fr:=[]) rfl rfl (hx) fok12 (.own rfl rfl (.cons rfl (.pure rfl) .nil)) rfl rfl rfl (Cn _ _) (by decide) rfl)<|Od rfl rfl (Ia rfl rfl rfl rfl ty55 ty9 (by omega))<|Od rfl rfl (Ld rfl rfl rfl hnx ty9 rfl)<|Od rfl rfl (LO.buildSlice rfl ty55 ty9 (by decide) (by decide) (.cons rfl rfl rfl rfl (Sl rfl) .nil))<|Od rfl rfl (Lap rfl rfl (Sso rfl rfl (Tl rfl)) rfl (strs_tk rfl) ty55 ty55 ty9 (by decide) (by omega) (by omega) (by decide))<|qF rfl ty65 rfl<|qS rfl ty55 (Sl rfl) rfl<|Nl ⟨by kernel_rfl,(qW 107 110 rfl<|qM rfl<|Od rfl rfl (LO.sub_in rfl rfl rfl (iW _ (by omega)))<|qA rfl<|Nl ?_)⟩
    rw [strs_snocR,show sl.length + 1=(sl++[x]).length from by simp]
    refine WL.rename [(0,0),(1,1),(2,2),(3,3),(4,4),(5,5),(6,6),(7,100)] 8 (by decide) ?_ ?_ (ihC ((n - 1),b1,(sl++[x])) (show (n - 1).toNat < n.toNat from by omega) (show (0≤(n - 1)∧(sl++[x]).length + (n - 1)≤3)∧∀ z∈(sl++[x]),z < 5 from ⟨⟨by omega,by simp;omega⟩,memR hsl hx5⟩))
    ·exact aU (lR rfl) (aU (lR rfl) (aU (lR rfl) (aU (lI rfl) (aU (lI rfl) (aU (lI rfl) (aU (lI rfl) (aU (lI rfl) aM)))))))
    ·exact aU (kP rfl (strsC_pure _)) (aU (kP rfl (intsC_pure _)) (aU (kI rfl) (aU (kP rfl (setsC_pure _)) (aU (kI rfl) (aU (kR rfl) (aU (kR rfl) (aU (kR rfl) aM)))))))
   ·have g3:decide (n > 0)=false:=decide_eq_false hcc
    have hsl3:sl.length≤3:=by omega
    clear ihC
    refine Wq<|Wq<|qW 86 88 rfl<|qM rfl<|qGt rfl<|Nl<|Wo rfl ‹_›<|Wx<|Wv (q:=5) (j:=1) (r:=6) rfl rfl (by decide) rfl (ints_tk rfl) (intsC_pure _) (Sl rfl)<|Wv (q:=5) (j:=2) (r:=7) rfl rfl (by decide) rfl (strs_tk rfl) (strsC_pure _) (Sl rfl)<|qW 114 121 rfl<|qF rfl ty28 rfl<|qL rfl ty25 rfl<|qG rfl ty65 rfl (Tl rfl)<|Od rfl rfl (LO.buildSlice rfl ty25 ty65 (by decide) (by decide) (.cons rfl rfl rfl rfl (Sl rfl) .nil))<|Od rfl rfl (Lap rfl rfl (Sso rfl rfl (Tl rfl)) rfl (sets_all rfl) ty25 ty25 ty65 (by decide) (by omega) (by omega) (by decide))<|qF rfl ty28 rfl<|qS rfl ty25 (Sl rfl) rfl<|Nl ?_
    rw [show setsC ss++[.base (.string (asN k)),.isl (intsC as_) as_.length,.isl (strsC sl) sl.length]=setsC (ss++[⟨k,as_,sl⟩]) from by rw [setsC_app];rfl,show ss.length + 1=(ss++[(⟨k,as_,sl⟩:SetR)]).length from by simp]
    refine qW 125 127 rfl<|qZ rfl (iW _ (by omega))<|qM rfl<|Nl ?_
    rw [hkk]
    refine WL.rename [(0,0),(1,1),(2,2),(3,3),(4,118)] 5 (by decide) ?_ ?_ (ihA ((k + 1),b,(ss++[(⟨k,as_,sl⟩:SetR)])) (show n0 - (k + 1) < n0 - k from by omega) (show (k + 1)≤n0∧(ss++[(⟨k,as_,sl⟩:SetR)]).length=(k + 1)∧SetsOk (ss++[(⟨k,as_,sl⟩:SetR)]) from ⟨by omega,by simp;omega,hss.snoc hlen hk4 ⟨has3,has,hsl3,hsl⟩⟩))
    ·exact aU (lR rfl) (aU (lR rfl) (aU (lI rfl) (aU (lI rfl) (aU (lI rfl) (aU (lI rfl) aM)))))
    ·exact aU (kP rfl (setsC_pure _)) (aU (kI rfl) (aU (kR rfl) (aU (kR rfl) (aU (kR rfl) aM))))
 ·have g1:decide ((k:Int) < (n0:Int))=false:=decide_eq_false (by omega)
  obtain ⟨n3,a3,bn3,hn3⟩:=nextC l a 12 (by decide) (by decide) hl
  clear ihA
  refine Wq<|qW 24 25 rfl<|qK rfl<|Nl<|Wq<|Wo rfl ‹_›<|Wx<|Wq<|Wq<|qW 131 134 rfl<|qM rfl<|Od rfl rfl (C1 (fr:=[]) rfl rfl (hn3) fok12 (.own rfl rfl (.cons rfl (.pure rfl) .nil)) rfl rfl rfl (Cn _ _) (by decide) rfl)<|qA rfl<|Nl<|Wb<|W.namec 134 (134 + 1) (q:=3) (j:=1) (sz:=6) rfl rfl (Sl rfl) (by decide) (by decide) (by decide)<|W.rename [(0,0),(1,1),(2,3),(3,4),(4,134)] 5 (T':=up (up (up (up mt 0 (some (.own 0 0))) 2 (some (.own 1 0))) 4 (some (.own 2 0))) 9 (some (.base (.int .i64 ((n3:Int)))))) (H':=up (up (up (up (up mt 0 (some (deckC l a3))) 1 (some ([.nils,.nils]))) 2 (some ([.osl 3 0 ss.length 3,.osl 4 0 (([]:List ObjR)).length 6]))) 3 (some (setsC ss))) 4 (some (objsC (([]:List ObjR))))) (by decide) ?_ ?_ ?_
  ·exact aU (lR rfl) (aU (lI rfl) (aU (lI rfl) (aU (lI rfl) aM)))
  ·exact aU (kR rfl) (aU (kP rfl (setsC_pure _)) (aU (kI rfl) (aU (kR rfl) (aU (kR rfl) aM))))
  refine W.loop_ind (α:=Int × Nat × List ObjR) (fun x=>x.1.toNat) 5 (fun x=>up (up (up (up mt 0 (some (.own 0 0))) 2 (some (.own 1 0))) 4 (some (.own 2 0))) 9 (some (.base (.int .i64 x.1)))) (fun x=>up (up (up (up (up mt 0 (some (deckC l x.2.1))) 1 (some ([.nils,.nils]))) 2 (some ([.osl 3 0 ss.length 3,.osl 4 0 x.2.2.length 6]))) 3 (some (setsC ss))) 4 (some (objsC x.2.2))) (fun x=>(0≤x.1∧x.2.2.length + x.1≤11)∧∀ z∈x.2.2,ObjOk z) (((n3:Int)),a3,(([]:List ObjR))) (show (0≤((n3:Int))∧(([]:List ObjR)).length + ((n3:Int))≤11)∧∀ z∈(([]:List ObjR)),ObjOk z from ⟨⟨by omega,by simp;omega⟩,fun x h=>absurd h List.not_mem_nil⟩) ?_
  rintro ⟨n,b,os⟩ hID ihD
  try (dsimp only at hID)
  try dsimp only
  obtain ⟨⟨hm0,hm3⟩,hos⟩:=hID
  by_cases hcd:0 < n
  ·have g3:decide (n > 0)=true:=decide_eq_true hcd
   obtain ⟨_,_,hob,o,b1,hok,rfl,rfl⟩:=dobj_any l b hl
   refine Wq<|Wq<|qW 138 140 rfl<|qM rfl<|qGt rfl<|Nl<|Wt rfl ‹_›<|Wu<|Wq<|Wb<|Wd 144 152 (by decide) rfl mixed rfl<|qF rfl ty28 rfl<|qL rfl ty26 rfl<|qM rfl<|Od rfl rfl (C1 (fr:=[]) rfl rfl (hob) fok20 (.own rfl rfl .nil) rfl rfl rfl (Cn _ _) (by decide) rfl)<|Od rfl rfl (LO.buildSlice rfl ty26 ty38 (by decide) (by decide) (.cons rfl rfl rfl rfl (Sl rfl) .nil))<|Od rfl rfl (Lap rfl rfl (Sso rfl rfl (Tl rfl)) rfl (objs_all rfl) ty26 ty26 ty38 (by decide) (by omega) (by omega) (by decide))<|qF rfl ty28 rfl<|qS rfl ty26 (Sl rfl) rfl<|Nl ⟨by kernel_rfl,(qW 156 159 rfl<|qM rfl<|Od rfl rfl (LO.sub_in rfl rfl rfl (iW _ (by omega)))<|qA rfl<|Nl ?_)⟩
   rw [show objsC os++[.base (.bool o.p.ad.v6),.base (.int .u64 o.p.ad.hi),.base (.int .u64 o.p.ad.lo),.base (.int .i64 o.p.len),.base (.int .i64 o.mx),.base (.int .i64 o.asn)]=objsC (os++[o]) from by rw [objsC_app];rfl,show os.length + 1=(os++[o]).length from by simp]
   refine WL.rename [(0,0),(1,1),(2,2),(3,3),(4,149)] 5 (by decide) ?_ ?_ (ihD ((n - 1),b1,(os++[o])) (show (n - 1).toNat < n.toNat from by omega) (show (0≤(n - 1)∧(os++[o]).length + (n - 1)≤11)∧∀ z∈(os++[o]),ObjOk z from ⟨⟨by omega,by simp;omega⟩,memR hos hok⟩))
   ·exact aU (lR rfl) (aU (lI rfl) (aU (lI rfl) (aU (lI rfl) aM)))
   ·exact aU (kP rfl (objsC_pure _)) (aU (kP rfl (setsC_pure _)) (aU (kI rfl) (aU (kR rfl) (aU (kR rfl) aM))))
  ·have g3:decide (n > 0)=false:=decide_eq_false hcd
   clear ihD
   refine Wq<|Wq<|qW 138 140 rfl<|qM rfl<|qGt rfl<|Nl<|Wo rfl ‹_›<|Wx<|Wv (q:=2) (j:=0) (r:=3) rfl rfl (by decide) rfl (sets_all rfl) (setsC_pure _) (Sl rfl)<|Wv (q:=2) (j:=1) (r:=4) rfl rfl (by decide) rfl (objs_all rfl) (objsC_pure _) (Sl rfl)<|Wq<|qW 163 165 rfl<|qG rfl ty28 rfl (Tl rfl)<|qS rfl ty28 (Sl rfl) rfl<|Nl<|Wz ⟨.inl rfl,_,(up mt 0 (some (deckC l b))),(Rc (Ra0 rfl rfl ty28 rfl (Tl rfl)) Rv),(aU rfl aM),?_⟩
   exact ⟨ss,os,b,⟨hss,⟨by omega,hos⟩⟩,rfl,rfl⟩
end Go.Proofs.YtndbhhgmpjjjhaaGreatDoor
namespace Go.Proofs.YtndbhhgmpjjjhaaGreatDoor
open Go.ChangeShapes Go.WideShapes Go.ChangeAt Go.RowKit
set_option maxRecDepth 20000 in
theorem open_ints {H:Type} {enc:TypeId × Value→H} {w:World} {base:Nat} {spare:Nat→Bool} {held:Bool} {fuel:Nat} {t te:TypeId} {q:IntKind} {n:Nat} {cs:List Value} {y:DataW H × List MemPlace}
 (ht:Tryz.prog.underlying t=some (.array n te)) (hte:Tryz.prog.underlying te=some (.int q)) (hce:Tryz.prog.cellsOf te=1) (hc:Tryz.prog.cellsOf t=n) (h:DataW.trod enc Tryz.prog w base spare held fuel t cs=some y) :
 ∃ ks:List Int,cs=ks.map (Value.int q)∧y.1=.agg (ks.map fun k=>.lit (.int q k)):=by
 obtain ⟨xs,m,_,hx,hl,hn,hel⟩:=DataW.trod_array ht h
 rw [hc] at hl
 rw [hce] at hel
 have key:∀ i,i < n→∃ k:Int,cs[i]?=some (.int q k)∧(xs[i]?).map (·.1)=some (.lit (.int q k)):=fun i hi=>by
  have h1:=hel i hi
  rw [Nat.mul_one] at h1
  have h2:xs[i]?=some xs[i]:=List.getElem?_eq_getElem (by omega)
  rw [h2] at h1
  obtain ⟨k,e1,e2,_⟩:=DataW.trod_int hte h1
  refine ⟨k,?_,by rw [h2];simp [e2]⟩
  have h3:((cs.drop i).take 1)[0]?=some (.int q k):=by rw [e1];rfl
  simpa using h3
 have hks:∃ ks:List Int,ks.length=n∧∀ i,i < n→∀ k,cs[i]?=some (.int q k)→ks[i]?=some k:=by
  refine ⟨cs.map fun v=>match v with
   | .int _ z=>z
   | _=>0,by simpa using hl,fun i hi k hk=>by simp [hk]⟩
 obtain ⟨ks,hkl,hk⟩:=hks
 refine ⟨ks,?_,?_⟩
 ·refine List.ext_getElem? fun i=>?_
  by_cases hi:i < n
  ·obtain ⟨k,h1,_⟩:=key i hi
   rw [h1,List.getElem?_map,hk i hi k h1];rfl
  ·rw [List.getElem?_eq_none (by omega),List.getElem?_eq_none (by simp;omega)]
 ·rw [hx]
  show DataW.agg _=_
  congr 1
  refine List.ext_getElem? fun i=>?_
  by_cases hi:i < n
  ·obtain ⟨k,h1,h2⟩:=key i hi
   rw [List.getElem?_map,h2,List.getElem?_map,hk i hi k h1];rfl
  ·rw [List.getElem?_eq_none (by simp;omega),List.getElem?_eq_none (by simp;omega)]
theorem litq_inj {H:Type} {q:IntKind} {a b:List Int} (h:(a.map fun k=>(DataW.lit (.int q k):DataW H))=b.map fun k=>.lit (.int q k)):a=b:=by
 induction a generalizing b with
 | nil=>cases b with
  | nil=>rfl
  | cons y b=>cases h
 | cons x a ih =>
  cases b with
  | nil=>cases h
  | cons y b =>
   simp only [List.map_cons,List.cons.injEq,DataW.lit.injEq,Lit.int.injEq,true_and] at h
   rw [h.1,ih h.2]
theorem laid_row {W:World} {nm:String} {g:Nat} {t te:TypeId} {q:IntKind} {n:Nat} {cs:Array Value} {fuel:Nat} {p:List MemPlace} {ks:List Int} {d:DataW Unit} (hd0:d=.agg (ks.map fun k=>.lit (.int q k))) (hne:ks≠[])
 (hg:Tryz.prog.globalNamed nm=some g) (ht:Tryz.prog.underlying t=some (.array n te)) (hte:Tryz.prog.underlying te=some (.int q)) (hce:Tryz.prog.cellsOf te=1) (hc:Tryz.prog.cellsOf t=n)
 (hv:W.var? Tryz.prog nm=some cs) (hd:DataW.trod (fun _=>()) Tryz.prog W 0 (fun _=>true) false fuel t cs.toList=some (d,p)) :
 g < W.heap.size∧∀ (i:Nat) v,(ks.map (Value.int q))[i]?=some v→W.cell? ⟨g,i,none⟩=some v:=by
 obtain ⟨ks',e1,e2⟩:=open_ints ht hte hce hc hd
 rw [hd0] at e2
 have e3:=litq_inj (DataW.agg.inj e2)
 subst e3
 obtain ⟨l⟩:=cs
 simp only at e1
 subst e1
 have hcell:∀ i,W.cell? ⟨g,i,none⟩=(ks.map (Value.int q)).toArray[i]?:=fun i=>World.var?_cell hg hv i
 refine ⟨?_,fun i v hv=>?_⟩
 ·cases ks with
  | nil=>exact absurd rfl hne
  | cons k ks=>exact World.block_lt_of_cell? W _ ((hcell 0).trans (by rfl))
 ·rw [hcell i,← hv,List.getElem?_toArray]
theorem Tryz.gH : Tryz.prog.globalNamed "exchangepoint/arp.head" = some 0 := by kernel_rfl
theorem Tryz.gP : Tryz.prog.globalNamed "internal/strconv.uint64pow10" = some 2 := by kernel_rfl
theorem Tryz.gD : Tryz.prog.globalNamed "math/bits.deBruijn64tab" = some 8 := by kernel_rfl
theorem Tryz.tyH:(Tryz.prog.globals[0]?).map (·.type)=some 92:=by kernel_rfl
theorem Tryz.tyP:(Tryz.prog.globals[2]?).map (·.type)=some 398:=by kernel_rfl
theorem Tryz.tyD:(Tryz.prog.globals[8]?).map (·.type)=some 421:=by kernel_rfl
theorem ty_of {nm:String} {g g':Nat} {t t':TypeId} (hg:Tryz.prog.globalNamed nm=some g) (ht:(Tryz.prog.globals[g]?).map (·.type)=some t) (hg':Tryz.prog.globalNamed nm=some g') (ht':(Tryz.prog.globals[g']?).map (·.type)=some t'):t'=t:=by
 obtain rfl:=Option.some.inj (hg.symm.trans hg')
 exact (Option.some.inj (ht.symm.trans ht')).symm
theorem open_max {W:World} (h:W.ShapedOpen Tryz.prog):∃ m,W.cell? ⟨1,0,none⟩=some (.int .i64 m) :=
 cell_of_shapedOpen_int (t:=3) (zero:=#[.int .i64 0]) h (of_decide_eq_true (by kernel_rfl)) (by kernel_rfl) rfl (by kernel_rfl) (by kernel_rfl) Tryz.underlying3
theorem glob_of_laidT {W : World} (hs : W.ShapedOpen Tryz.prog) (h : laidMetH Tryz.prog [("math/bits.deBruijn32tab", Rows.laid_math_bits_deBruijn32tab), ("math/bits.deBruijn64tab", Rows.laid_math_bits_deBruijn64tab), ("internal/strconv.uint64pow10", Rows.laid_internal_strconv_uint64pow10), ("unicode/utf8.acceptRanges", Rows.laid_unicode_utf8_acceptRanges), ("strconv.ErrRange", Rows.laid_strconv_ErrRange), ("strconv.ErrSyntax", Rows.laid_strconv_ErrSyntax), ("exchangepoint/arp.head", Rows.laid_exchangepoint_arp_head), ("unicode/utf8.first", Rows.laid_unicode_utf8_first)] W) : Glob (fun _ => False) W := by
 rw [MakeChecks.laidMetH_plain _ _ _ (by kernel_rfl)] at h
 obtain ⟨ps,⟨g0,t0,cs0,f0,p0,q0,hg0,ht0,hv0,hd0,⟨g1,t1,cs1,f1,p1,q1,hg1,ht1,hv1,hd1,⟨g2,t2,cs2,f2,p2,q2,hg2,ht2,hv2,hd2,⟨g3,t3,cs3,f3,p3,q3,hg3,ht3,hv3,hd3,⟨g4,t4,cs4,f4,p4,q4,hg4,ht4,hv4,hd4,⟨g5,t5,cs5,f5,p5,q5,hg5,ht5,hv5,hd5,⟨g6,t6,cs6,f6,p6,q6,hg6,ht6,hv6,hd6,_,_⟩,_⟩,_⟩,_⟩,_⟩,_⟩,_⟩,_,_⟩:=h
 obtain rfl:=ty_of Tryz.gD Tryz.tyD hg1 ht1
 obtain rfl:=ty_of Tryz.gP Tryz.tyP hg2 ht2
 obtain rfl:=ty_of Tryz.gH Tryz.tyH hg6 ht6
 obtain ⟨a1,a2⟩:=laid_row (ks:=[0,1,56,2,57,49,28,3,61,58,42,50,38,29,17,4,62,47,59,36,45,43,51,22,53,39,33,30,24,18,12,5,63,55,48,27,60,41,37,16,46,35,44,21,52,32,23,11,54,26,40,15,34,20,31,10,25,14,19,9,13,8,7,6]) (q:=.u8) rfl (fun h=>by cases h) Tryz.gD Tryz.underlying421 Tryz.underlying5 (by kernel_rfl) (by kernel_rfl) hv1 hd1
 obtain ⟨b1,b2⟩:=laid_row (ks:=[1,10,100,1000,10000,100000,1000000,10000000,100000000,1000000000,10000000000,100000000000,1000000000000,10000000000000,100000000000000,1000000000000000,10000000000000000,100000000000000000,1000000000000000000,10000000000000000000]) (q:=.u64) rfl (fun h=>by cases h) Tryz.gP Tryz.underlying398 Tryz.underlying32 (by kernel_rfl) (by kernel_rfl) hv2 hd2
 obtain ⟨c1,c2⟩:=laid_row (ks:=[0,1,8,0,6,4]) (q:=.u8) rfl (fun h=>by cases h) Tryz.gH Tryz.underlying92 Tryz.underlying5 (by kernel_rfl) (by kernel_rfl) hv6 hd6
 obtain ⟨m,hm⟩:=open_max hs
 refine ⟨fun g vs hg=>?_,fun g hg=>?_⟩
 ·unfold gRaw at hg
  split at hg
  ·injection hg with hg;subst hg;exact ⟨c1,fun h=>h,c2⟩
  ·injection hg with hg;subst hg;exact ⟨b1,fun h=>h,b2⟩
  ·injection hg with hg;subst hg;exact ⟨a1,fun h=>h,a2⟩
  ·cases hg
 ·have:=Nat.eq_of_beq_eq_true hg
  subst this
  exact ⟨World.block_lt_of_cell? W _ hm,fun h=>h,m,hm⟩
theorem returns_and_shaped {H:Type} {enc:TypeId × Value→H} {a:Assume} {C:Checked} {os:Os} {f:FuncId} {fn:Func} {s:ChangeSpec} {conds:List PathCond} {apart fresh handsOn again:Bool} {X:World→Array Value→Prop}
 (hX:∀ (w w':World) (args:Array Value),w.heap=w'.heap→X w args→X w' args)
 (own:ownKnob C.prog.godebug=none) (started:os.Started) (noInit:C.prog.inits.idxOf? f=none) (hfn:C.prog.funcs[f]?=some fn)
 (witness:∃ (w:World) (tape:Tape) (i:Input),w.os=os∧(w.forCall tape i).Shaped C.prog∧i.vars=[]∧Input.okWide C.prog (w.forCall tape i) .any w.heap.size f i ∧
  ((s.pre enc C.prog fn conds apart (w.forCall tape i).memory i.args∧X (w.forCall tape i).memory i.args)∧sizedMet enc C.prog fn (OpenSpec.ofChange s) apart (w.forCall tape i).memory i.args)∧a.holds C.prog (lone (Frame.enter C.prog f i.args .normal) [] (w.forCall tape i)))
 (contract:∀ (W:World) (base:Nat) (args:Array Value) (ds gs:List (DataW H)) (before:List MemPlace),
  (∀ (j:Nat) t v,fn.params[j]?=some t→args[j]?=some v→Value.okWide C.prog W .any base t v) →
  DataW.Whole enc C.prog fn.params.toList s.vars apart W args.toList ds gs before →
  W.ShapedOpen C.prog→X W args →
  Calls C.prog f args W fun e W'=>∃ v,e=.returned v∧s.post enc C.prog fn apart fresh handsOn again W args v W') :
 ReturnsInHanded a C os f .any (fun w args=>(s.pre enc C.prog fn conds apart w args∧X w args)∧sizedMet enc C.prog fn (OpenSpec.ofChange s) apart w args) (s.post enc C.prog fn apart fresh handsOn again):=by
 refine returnsInHanded_of_calls own started noInit witness ?_
 intro w tape i _ hsh _ hok hpre hholds
 obtain ⟨_,_,_,fn',hfn',_,_,_,_,hval⟩:=hok
 have e:fn'=fn:=Option.some.inj (hfn'.symm.trans hfn)
 subst e
 obtain ⟨⟨⟨ds,gs,before,hw,hc⟩,hx⟩,hz⟩:=hpre
 have hw':=DataW.Whole.of_heap (w':=w.forCall tape i) (by rfl) hw
 refine (contract (w.forCall tape i) w.heap.size i.args ds gs before hval hw' hsh (hX _ _ _ (by rfl) hx)).mono fun e W' ⟨v,he,hp⟩=>?_
 subst he
 exact ChangeSpec.post_blind hp
section
variable {H:Type} {enc:TypeId × Value→H}
theorem opInt:Opens enc Tryz.prog 3 (fun (z:Int)=>[.base (.int .i64 z)]) (fun z=>(Lit.int .i64 z).wf=true):=.int Tryz.underlying3
theorem opInts:Opens enc Tryz.prog 22 (fun (l:List Int)=>[.isl (intsC l) l.length]) (fun l=>l.length≤9223372036854775807) :=
 (Opens.slice (n:=1) Tryz.underlying22 opInt (by kernel_rfl) (by decide) (fun _ _=>rfl)).map id (fun l _=>by unfold intsC;rw [List.map_eq_flatMap];rfl) (fun l h=>by have:=h.1;unfold maxLen at this;simp only [id];omega)
end
end Go.Proofs.YtndbhhgmpjjjhaaGreatDoor
