/-
  Distances: both texts. The listed variables hold what the abstract machine says they hold; a variable that is named only holds some number; lists of numbers, as they come in.
-/
import Derived.Test.YtdflnmfjpoodlaaGreatDoorFb
import Derived.Test.YtdflnmfjpoodlaaGreatDoorMab
import Derived.Test.YtdflnmfjpoodlaaGreatDoorGt
import Derived.Test.YtdflnmfjpoodlaaGreatDoorLw
import Derived.Test.YtdflnmfjpoodlaaGreatDoorCards
import Derived.Test.YtdflnmfjpoodlaaGreatDoorTie
import Derived.SevenTiedAt
import Derived.LaidMore
import Derived.LaidHandle
import Derived.OpenShut
import Derived.Lay
import Derived.Shelf.Vars
namespace Go.Proofs.YtdflnmfjpoodlaaGreatDoor
open Go.RowKit
def intsC (l:List Int):List AV:=l.map fun z=>.base (.int .i64 z)
def intsV (l:List Int):AV:=.isl (intsC l) l.length
theorem intsC_len (l:List Int):(intsC l).length=l.length:=by simp [intsC]
theorem intsC_pure (l:List Int):(intsC l).all AV.pure1=true:=by
 induction l with
 | nil=>rfl
 | cons x l ih=>rw [show intsC (x::l)=[.base (.int .i64 x)]++intsC l from rfl,List.all_append,ih];rfl
theorem ints_tk {l:List Int} {n:Nat} (h:l.length=n):Tk (intsC l) 0 (n * 1) (intsC l):=by
 have:=Tk.all (intsC l)
 rwa [intsC_len,h,← Nat.mul_one n] at this
theorem ints_snoc (l:List Int) (x:Int):intsC l++[.base (.int .i64 x)]=intsC (l++[x]):=by simp [intsC]
theorem zeros_ints (n:Nat):zerosL n [.base (.int .i64 0)]=intsC (List.replicate n 0):=by
 unfold zerosL intsC
 induction n with
 | zero=>rfl
 | succ n ih=>rw [List.replicate_succ,List.flatten_cons,ih,List.replicate_succ,List.map_cons];rfl
theorem ni_at {l:List Int} {k:Nat} (h:k < l.length):(intsC l)[0 + k * 1]?=some (.base (.int .i64 (gI l k))):=by
 rw [gI_at h];simp [intsC,h]
theorem gi_at {l:List Int} {x:Int} (h0:0≤x) (h1:x < l.length):(intsC l)[0 + x.toNat * 1]?=some (.base (.int .i64 (gI l x))):=by
 obtain ⟨k,rfl⟩:=Int.eq_ofNat_of_zero_le h0
 rw [Int.toNat_natCast]
 exact ni_at (by omega)
theorem gi_at1 {l:List Int} {x:Int} (h0:0≤x) (h1:x < l.length):(intsC l)[x.toNat * 1]?=some (.base (.int .i64 (gI l x))):=by
 rw [← Nat.zero_add (x.toNat * 1)];exact gi_at h0 h1
theorem ns_at {l:List Int} {k:Nat} {v:Int} (h:k < l.length):Sp (intsC l) (0 + k * 1) [.base (.int .i64 v)] (intsC (l.set k v)):=by
 have:=Sp.set (intsC l) k (.base (.int .i64 v)) (by rwa [intsC_len])
 rw [show intsC (l.set k v)=(intsC l).set k (.base (.int .i64 v)) from by simp [intsC,List.map_set]]
 rwa [show 0 + k * 1=k from by omega]
theorem si_at {l:List Int} {x v:Int} (h0:0≤x) (h1:x < l.length):Sp (intsC l) (0 + x.toNat * 1) [.base (.int .i64 v)] (intsC (sI l x v)):=by
 obtain ⟨k,rfl⟩:=Int.eq_ofNat_of_zero_le h0
 rw [sI_nat,Int.toNat_natCast]
 exact ns_at (by omega)
theorem q_head {p q:List Int} {v:Int}:(intsC (p++v::q))[p.length + 0 * 1]?=some (.base (.int .i64 v)):=by simp [intsC]
theorem q_tk {p q:List Int}:Tk (intsC (p++q)) p.length (q.length * 1) (intsC q):=by
 refine ⟨by simp [intsC],fun j c hj=>?_⟩
 simp only [intsC,List.map_append]
 rw [List.getElem?_append_right (by simp)]
 simpa [intsC] using hj
theorem fill_set {j n:Nat} (h:j < n) (a b:Int):(List.replicate j a++List.replicate (n - j) b).set j a=List.replicate (j + 1) a++List.replicate (n - (j + 1)) b:=by
 obtain ⟨m,hm⟩:∃ m,n - j=m + 1:=⟨n - j - 1,by omega⟩
 rw [show n - (j + 1)=m from by omega,hm,List.replicate_succ,List.set_append_right _ _ (by simp)]
 simp [List.replicate_succ']
theorem fill_full {n:Nat} (a b:Int):List.replicate n a++List.replicate (n - n) b=List.replicate n a:=by simp
theorem tk_ends (a b:Int) {k:Nat} (h:k < 2):Tk [.base (.int .i64 a),.base (.int .i64 b),.base (.int .i64 b),.base (.int .i64 a)] (k * 2) 2 [.base (.int .i64 (endK a b k)),.base (.int .i64 (endK b a k))]:=by
 rcases k with _|_|k
 ·exact Tk.lit rfl
 ·exact Tk.lit rfl
 ·omega
structure FabS (f:Fab):Prop where
 sw:f.sw=f.dead.length
 n8:f.dead.length≤8
 nl:f.links.length≤24
theorem reach_own (f:Fab) (hf:FabS f) (to wo:Int):AFn Tryz.prog 32 0 [.agg (fabC f),.base (.int .i64 to),.base (.int .i64 wo)] mt (.osl 0 0 f.dead.length 1) (up mt 0 (some (intsC (distW f (fun i=>worksB f i && !((i:Int) == wo)) to)))):=by
 refine AFn.eq Tryz.func32 rfl rfl (Nat.le_of_ble_eq_true rfl) ?_
 have hal:=alive_any f
 have hwk:=works_any f
 obtain ⟨hsw,h8,h24⟩:=hf
 refine Wq<|qW 0 2 rfl<|qC rfl<|qA rfl<|Nl<|Wq<|qW 6 15 rfl<|qF rfl ty41 rfl<|qL rfl ty3 rfl<|qF rfl ty41 rfl<|qL rfl ty39 rfl<|qH rfl ty39<|Od rfl rfl (LO.min rfl rfl rfl)<|Od rfl rfl (LO.max rfl rfl rfl) ?_
 rw [show (if (0:Int) < (if (f.dead.length:Int) < f.sw then (f.dead.length:Int) else f.sw) then (if (f.dead.length:Int) < f.sw then (f.dead.length:Int) else f.sw) else 0)=(f.dead.length:Int) from by rw [hsw];split<;>simp_all<;>omega]
 refine Od rfl rfl (LO.makeSlice rfl rfl rfl rfl rfl ty22 ty3 (by decide) (by omega) (by omega) (by omega))<|qA rfl<|Nl ?_
 rw [zeros_ints]
 refine Wq<|Wq<|qW 19 22 rfl<|qM rfl<|Od rfl rfl (LO.len rfl rfl ty22)<|qM rfl<|Nl<|Wb<|W.rename [(0,0),(1,13)] 2 (T':=up (up (up (up (up (up mt 1 (some (.base (.int .i64 to)))) 2 (some (.base (.int .i64 wo)))) 3 (some (.own 0 0))) 7 (some (.osl 1 0 f.dead.length 1))) 23 (some (.base (.int .i64 (f.dead.length:Int))))) 24 (some (.base (.int .i64 (0:Int))))) (H':=up (up mt 0 (some (fabC f))) 1 (some (intsC (List.replicate f.dead.length 0)))) (by decide) ?_ ?_ ?_
 ·exact aU (lR rfl) (aU (lR rfl) (aU (lI rfl) (aU (lI rfl) (aU (lR rfl) (aU (lR rfl) aM)))))
 ·exact aU (kP rfl (intsC_pure _)) (aU (kR rfl) aM)
 refine W.loop_ind (α:=Nat × List Int) (fun x=>f.dead.length - x.1) 2 (fun x=>up (up (up (up (up (up mt 1 (some (.base (.int .i64 to)))) 2 (some (.base (.int .i64 wo)))) 3 (some (.own 0 0))) 7 (some (.osl 1 0 f.dead.length 1))) 23 (some (.base (.int .i64 (f.dead.length:Int))))) 24 (some (.base (.int .i64 (x.1:Int))))) (fun x=>up (up mt 0 (some (fabC f))) 1 (some (intsC x.2))) (fun x=>x.1≤f.dead.length∧x.2=List.replicate x.1 (-1)++List.replicate (f.dead.length - x.1) 0) (0,(List.replicate f.dead.length 0)) (show 0≤f.dead.length∧(List.replicate f.dead.length 0)=List.replicate 0 (-1)++List.replicate (f.dead.length - 0) 0 from ⟨Nat.zero_le _,rfl⟩) ?_
 rintro ⟨j,d⟩ hIA ihA
 try (dsimp only at hIA)
 try dsimp only
 obtain ⟨hj,hd⟩:=hIA
 have hdl:d.length=f.dead.length:=by rw [hd];simp;omega
 by_cases hc:j < f.dead.length
 ·have g1:decide ((j:Int) < (f.dead.length:Int))=true:=decide_eq_true (by omega)
  refine Wq<|qW 26 27 rfl<|qK rfl<|Nl<|Wq<|Wt rfl ‹_›<|Wu<|Wq<|Wb<|Wq<|qW 31 33 rfl<|qM rfl<|qA rfl<|Nl<|qW 37 41 rfl<|qM rfl<|qM rfl<|Od rfl rfl (Ia rfl rfl rfl rfl ty22 ty3 (by omega))<|qS rfl ty3 (ns_at (by omega)) rfl<|Nl<|qW 45 47 rfl<|qZ rfl (iW _ (by omega))<|qM rfl<|Nl<|WL.rename [(0,0),(1,1)] 2 (by decide) ?_ ?_ (ihA ((j + 1),(d.set j (-1))) (show f.dead.length - (j + 1) < f.dead.length - j from by omega) (show (j + 1)≤f.dead.length∧(d.set j (-1))=List.replicate (j + 1) (-1)++List.replicate (f.dead.length - (j + 1)) 0 from ⟨by omega,by rw [hd];exact fill_set hc _ _⟩))
  ·exact aU (lR rfl) (aU (lR rfl) (aU (lI rfl) (aU (lI rfl) (aU (lR rfl) (aU (lR rfl) aM)))))
  ·exact aU (kP rfl (intsC_pure _)) (aU (kR rfl) aM)
 ·have g1:decide ((j:Int) < (f.dead.length:Int))=false:=decide_eq_false (by omega)
  refine Wq<|qW 26 27 rfl<|qK rfl<|Nl<|Wq<|Wo rfl ‹_›<|Wx ?_
  obtain rfl:j=f.dead.length:=by omega
  rw [fill_full] at hd
  clear ihA hj hc g1
  subst hd
  clear hdl
  cases ha:aliveB f to with
  | false =>
   have ha1:(!aliveB f to)=true:=by rw [ha];rfl
   refine Wq<|Wq<|qW 51 61 rfl<|qG rfl ty41 rfl (Tl rfl)<|qM rfl<|qY rfl (hal _) fok52 rfl<|qO rfl<|qM rfl<|qD rfl ‹_› rfl<|qD rfl ‹_› rfl<|qD rfl ‹_› rfl<|qD rfl ‹_› rfl<|qT rfl ‹_› rfl<|Nl<|Wt rfl rfl<|Wq<|qW 65 67 rfl<|qM rfl<|qA rfl<|Nl<|W.rename [(0,1)] 1 (T':=up mt 6 (some (.osl 0 0 (f.dead.length) 1))) (H':=up mt 0 (some (intsC (List.replicate f.dead.length (-1))))) (by decide) ?_ ?_ ?_
   ·exact aU (lI rfl) aM
   ·exact aU (kP rfl (intsC_pure _)) aM
   refine Wz ⟨.inl rfl,_,up mt 0 (some (intsC (List.replicate f.dead.length (-1)))),Rc (Rt0 rfl) Rv,aU rfl aM,?_⟩
   exact ⟨rfl,by rw [distW_dead ha]⟩
  | true =>
   have ha1:(!aliveB f to)=false:=by rw [ha];rfl
   obtain ⟨h0,h1⟩:=aliveB_lt ha
   have g2:decide ((f.dead.length:Int)≤to)=false:=decide_eq_false (by omega)
   refine Wq<|Wq<|qW 51 61 rfl<|qG rfl ty41 rfl (Tl rfl)<|qM rfl<|qY rfl (hal _) fok52 rfl<|qO rfl<|qM rfl<|gM rfl ‹_›<|gM rfl ‹_›<|qU rfl ‹_› rfl (LO.len rfl rfl ty22)<|gGe rfl ‹_›<|qP rfl ‹_› rfl<|Nl<|Wo rfl ‹_›<|Wu<|Wq<|qW 71 75 rfl<|qM rfl<|qM rfl<|Od rfl rfl (Ia rfl rfl rfl (Int.toNat_of_nonneg h0).symm ty22 ty3 (by omega))<|qS rfl ty3 (si_at h0 (by simpa using h1)) rfl<|Nl<|Wq<|Wq<|qW 79 82 rfl<|qM rfl<|Od rfl rfl (LO.buildSlice rfl ty22 ty3 (by decide) (by decide) (.cons rfl rfl rfl rfl (Sl rfl) .nil))<|qA rfl<|Nl<|Wb ?_
   obtain ⟨Wk,hWk⟩:∃ Wk:Nat→Bool,(fun i:Nat=>worksB f i && !((i:Int) == wo))=Wk:=⟨_,rfl⟩
   rw [hWk]
   have hw:Wf f Wk f.dead.length:=wfWorks f Wk fun i h=>by rw [← hWk] at h;simp only [Bool.and_eq_true] at h;exact h.1
   refine W.rename [(0,0),(1,1),(2,80)] 3 (T':=up (up (up (up mt 2 (some (.base (.int .i64 wo)))) 3 (some (.own 0 0))) 7 (some (.osl 1 0 f.dead.length 1))) 9 (some (.osl 2 (([]:List Int)).length [to].length 1))) (H':=up (up (up mt 0 (some (fabC f))) 1 (some (intsC (sI (List.replicate f.dead.length (-1)) to 0)))) 2 (some (intsC ((([]:List Int))++[to])))) (by decide) ?_ ?_ ?_
   ·exact aU (lI rfl) (aU (lI rfl) (aU (lI rfl) (aU (lR rfl) aM)))
   ·exact aU (kR rfl) (aU (kP rfl (intsC_pure _)) (aU (kR rfl) aM))
   refine W.loop_ind (α:=List Int × List Int × List Int) (fun x=>x.2.2.length + cntN x.1) 3 (fun x=>up (up (up (up mt 2 (some (.base (.int .i64 wo)))) 3 (some (.own 0 0))) 7 (some (.osl 1 0 f.dead.length 1))) 9 (some (.osl 2 x.2.1.length x.2.2.length 1))) (fun x=>up (up (up mt 0 (some (fabC f))) 1 (some (intsC x.1))) 2 (some (intsC (x.2.1++x.2.2)))) (fun x=>QS f Wk f.dead.length to x.1 x.2.2∧x.2.2.length + cntN x.1≤f.dead.length + 1) ((sI (List.replicate f.dead.length (-1)) to 0),(([]:List Int)),[to]) (show QS f Wk f.dead.length to (sI (List.replicate f.dead.length (-1)) to 0) [to]∧[to].length + cntN (sI (List.replicate f.dead.length (-1)) to 0)≤f.dead.length + 1 from ⟨Bq.start h0 h1,by have:=cntN_le (sI (List.replicate f.dead.length (-1)) to 0);rw [sI_len,List.length_replicate] at this;simp only [List.length_cons,List.length_nil];omega⟩) ?_
   rintro ⟨d,p,q⟩ hIB ihB
   try (dsimp only at hIB)
   try dsimp only
   obtain ⟨hIB,hbd⟩:=hIB
   cases q with
   | nil =>
    have hI:IsDist f Wk f.dead.length to d:=hIB
    refine Wq<|Wq<|qW 86 89 rfl<|qM rfl<|Od rfl rfl (LO.len rfl rfl ty22)<|qGt rfl<|Nl<|Wo rfl rfl<|Wx<|Wq<|qW 226 228 rfl<|qM rfl<|qA rfl<|Nl<|W.rename [(0,1)] 1 (T':=up mt 6 (some (.osl 0 0 (f.dead.length) 1))) (H':=up mt 0 (some (intsC d))) (by decide) ?_ ?_ ?_
    ·exact aU (lI rfl) aM
    ·exact aU (kP rfl (intsC_pure _)) aM
    refine Wz ⟨.inl rfl,_,up mt 0 (some (intsC d)),Rc (Rt0 rfl) Rv,aU rfl aM,?_⟩
    exact ⟨rfl,by rw [hI.eq (distW_ok hw ha)]⟩
   | cons v q =>
    have hI:Bq f Wk f.dead.length to v 0 d q:=hIB
    rw [List.length_cons] at hbd
    have g3:decide ((0:Int) < ((v::q).length:Int))=true:=decide_eq_true (by simp<;>omega)
    refine Wq<|Wq<|qW 86 89 rfl<|qM rfl<|Od rfl rfl (LO.len rfl rfl ty22)<|qGt rfl<|Nl<|Wt rfl ‹_›<|Wu<|Wq<|Wb<|Wq<|qW 93 97 rfl<|qF rfl ty41 rfl<|qL rfl ty38 rfl<|qH rfl ty38<|qM rfl<|Nl<|Wb<|W.rename [(0,0),(1,1),(2,2)] 3 (T':=up (up (up (up (up (up (up mt 2 (some (.base (.int .i64 wo)))) 3 (some (.own 0 0))) 7 (some (.osl 1 0 f.dead.length 1))) 9 (some (.osl 2 p.length (v::q).length 1))) 53 (some (.isl (lnksC f.links) f.links.length))) 54 (some (.base (.int .i64 (f.links.length:Int))))) 55 (some (.base (.int .i64 (0:Int))))) (H':=up (up (up mt 0 (some (fabC f))) 1 (some (intsC d))) 2 (some (intsC (p++v::q)))) (by decide) ?_ ?_ ?_
    ·exact aU (lR rfl) (aU (lR rfl) (aU (lR rfl) (aU (lI rfl) (aU (lI rfl) (aU (lI rfl) (aU (lR rfl) aM))))))
    ·exact aU (kP rfl (intsC_pure _)) (aU (kP rfl (intsC_pure _)) (aU (kR rfl) aM))
    refine W.loop_ind (α:=Nat × List Int × List Int × List Int) (fun x=>f.links.length - x.1) 3 (fun x=>up (up (up (up (up (up (up mt 2 (some (.base (.int .i64 wo)))) 3 (some (.own 0 0))) 7 (some (.osl 1 0 f.dead.length 1))) 9 (some (.osl 2 x.2.2.1.length (v::x.2.2.2).length 1))) 53 (some (.isl (lnksC f.links) f.links.length))) 54 (some (.base (.int .i64 (f.links.length:Int))))) 55 (some (.base (.int .i64 (x.1:Int))))) (fun x=>up (up (up mt 0 (some (fabC f))) 1 (some (intsC x.2.1))) 2 (some (intsC (x.2.2.1++v::x.2.2.2)))) (fun x=>(Bq f Wk f.dead.length to v x.1 x.2.1 x.2.2.2∧x.2.2.2.length + cntN x.2.1=q.length + cntN d)∧x.1≤f.links.length) (0,d,p,q) (show (Bq f Wk f.dead.length to v 0 d q∧q.length + cntN d=q.length + cntN d)∧0≤f.links.length from ⟨⟨hI,rfl⟩,Nat.zero_le _⟩) ?_
    rintro ⟨i,d1,p1,q1⟩ hIC ihC
    try (dsimp only at hIC)
    try dsimp only
    obtain ⟨⟨hB,hcnt⟩,hi⟩:=hIC
    by_cases hc:i < f.links.length
    ·have g4:decide ((i:Int) < (f.links.length:Int))=true:=decide_eq_true (by omega)
     have hl:f.links[i]?=some f.links[i]:=by simp [hc]
     refine Wq<|qW 101 102 rfl<|qK rfl<|Nl<|Wq<|Wt rfl ‹_›<|Wu<|Wq<|Wb<|Wq<|qW 106 112 rfl<|qM rfl<|qJ rfl rfl ty38 ty96 (by omega)<|Od rfl rfl (Lg rfl rfl ty96 rfl (lnksC_tk hc))<|qB rfl ty96<|qA rfl<|qS rfl ty96 (Sl rfl) rfl<|Nl ?_
     by_cases hwo:(i:Int)=wo
     case' pos =>
      have g5:((i:Int) == wo)=true:=by rw [hwo];simp
      have hWf:Wk i=false:=by rw [← hWk];simp [g5]
      refine Wq<|Wq<|qW 116 125 rfl<|qM rfl<|qM rfl<|qE rfl<|qM rfl<|qD rfl ‹_› rfl<|qD rfl ‹_› rfl<|qD rfl ‹_› rfl<|qD rfl ‹_› rfl<|qT rfl ‹_› rfl<|Nl ?_
     case' neg =>
      have g5:((i:Int) == wo)=false:=by simp [hwo]
      cases hwi:worksB f i
      case' false =>
       have hWf:Wk i=false:=by rw [← hWk];simp [hwi]
       have g6:(!worksB f i)=true:=by rw [hwi];rfl
       refine Wq<|Wq<|qW 116 125 rfl<|qM rfl<|qM rfl<|qE rfl<|qM rfl<|gG rfl ‹_› ty41 rfl (Tl rfl)<|gM rfl ‹_›<|gY rfl ‹_› (hwk _) fok33 rfl<|gO rfl ‹_›<|qP rfl ‹_› rfl<|Nl ?_
      case' true =>
       have hWt:Wk i=true:=by rw [← hWk];simp [hwi,g5]
       have g6:(!worksB f i)=false:=by rw [hwi];rfl
       refine Wq<|Wq<|qW 116 125 rfl<|qM rfl<|qM rfl<|qE rfl<|qM rfl<|gG rfl ‹_› ty41 rfl (Tl rfl)<|gM rfl ‹_›<|gY rfl ‹_› (hwk _) fok33 rfl<|gO rfl ‹_›<|qP rfl ‹_› rfl<|Nl ?_
     case pos|neg.false =>
      refine Wt rfl (by first|rfl|assumption)<|Wx ?_
      have hn:=hB.next hw
      rw [show scanQ f Wk f.dead.length v (d1,q1) i=(d1,q1) from by unfold scanQ;rw [hl];simp [hWf]] at hn
      refine qW 213 215 rfl<|qZ rfl (iW _ (by omega))<|qM rfl<|Nl<|WL.rename [(0,0),(1,1),(2,2)] 3 (by decide) ?_ ?_ (ihC ((i + 1),d1,p1,q1) (show f.links.length - (i + 1) < f.links.length - i from by omega) (show (Bq f Wk f.dead.length to v (i + 1) d1 q1∧q1.length + cntN d1=q.length + cntN d)∧(i + 1)≤f.links.length from ⟨⟨hn.1,hn.2.trans hcnt⟩,by omega⟩))
      ·exact aU (lR rfl) (aU (lR rfl) (aU (lR rfl) (aU (lI rfl) (aU (lI rfl) (aU (lI rfl) (aU (lR rfl) aM))))))
      ·exact aU (kP rfl (intsC_pure _)) (aU (kP rfl (intsC_pure _)) (aU (kR rfl) aM))
     ·obtain ⟨x1,x2,x3,x4⟩:=hw i _ hl hWt
      refine Wo rfl ‹_›<|Wu<|Wq<|qW 129 141 rfl<|qF rfl ty96 rfl<|qL rfl ty3 rfl<|qF rfl ty96 rfl<|qL rfl ty3 rfl<|Od rfl rfl (LO.build_ar rfl ty147 ty3 (.cons rfl rfl rfl rfl (Sl rfl) (.cons rfl rfl rfl rfl (Sl rfl) .nil)))<|qF rfl ty96 rfl<|qL rfl ty3 rfl<|qF rfl ty96 rfl<|qL rfl ty3 rfl<|Od rfl rfl (LO.build_ar rfl ty147 ty3 (.cons rfl rfl rfl rfl (Sl rfl) (.cons rfl rfl rfl rfl (Sl rfl) .nil)))<|Od rfl rfl (LO.build_ar rfl ty148 ty147 (.cons rfl rfl rfl rfl (Sl rfl) (.cons rfl rfl rfl rfl (Sl rfl) .nil)))<|qM rfl<|Nl<|Wb<|W.rename [(0,0),(1,1),(2,2)] 3 (T':=up (up (up (up (up (up (up (up (up mt 2 (some (.base (.int .i64 wo)))) 3 (some (.own 0 0))) 7 (some (.osl 1 0 f.dead.length 1))) 9 (some (.osl 2 p1.length (v::q1).length 1))) 53 (some (.isl (lnksC f.links) f.links.length))) 54 (some (.base (.int .i64 (f.links.length:Int))))) 55 (some (.base (.int .i64 (i:Int))))) 79 (some (.agg [.base (.int .i64 f.links[i].a),.base (.int .i64 f.links[i].b),.base (.int .i64 f.links[i].b),.base (.int .i64 f.links[i].a)]))) 80 (some (.base (.int .i64 (0:Int))))) (H':=up (up (up mt 0 (some (fabC f))) 1 (some (intsC d1))) 2 (some (intsC (p1++v::q1)))) (by decide) ?_ ?_ ?_
      ·exact aU (lR rfl) (aU (lR rfl) (aU (lR rfl) (aU (lR rfl) (aU (lR rfl) (aU (lI rfl) (aU (lI rfl) (aU (lI rfl) (aU (lR rfl) aM))))))))
      ·exact aU (kP rfl (intsC_pure _)) (aU (kP rfl (intsC_pure _)) (aU (kR rfl) aM))
      refine W.loop_ind (α:=Nat × List Int × List Int × List Int) (fun x=>2 - x.1) 3 (fun x=>up (up (up (up (up (up (up (up (up mt 2 (some (.base (.int .i64 wo)))) 3 (some (.own 0 0))) 7 (some (.osl 1 0 f.dead.length 1))) 9 (some (.osl 2 x.2.2.1.length (v::x.2.2.2).length 1))) 53 (some (.isl (lnksC f.links) f.links.length))) 54 (some (.base (.int .i64 (f.links.length:Int))))) 55 (some (.base (.int .i64 (i:Int))))) 79 (some (.agg [.base (.int .i64 f.links[i].a),.base (.int .i64 f.links[i].b),.base (.int .i64 f.links[i].b),.base (.int .i64 f.links[i].a)]))) 80 (some (.base (.int .i64 (x.1:Int))))) (fun x=>up (up (up mt 0 (some (fabC f))) 1 (some (intsC x.2.1))) 2 (some (intsC (x.2.2.1++v::x.2.2.2)))) (fun x=>x.1≤2∧(x.2.1,x.2.2.2)=tryK f.dead.length v (d1,q1) f.links[i].a f.links[i].b x.1∧Bq f Wk f.dead.length to v i x.2.1 x.2.2.2∧x.2.2.2.length + cntN x.2.1=q1.length + cntN d1) (0,d1,p1,q1) (show 0≤2∧(d1,q1)=tryK f.dead.length v (d1,q1) f.links[i].a f.links[i].b 0∧Bq f Wk f.dead.length to v i d1 q1∧q1.length + cntN d1=q1.length + cntN d1 from ⟨Nat.zero_le _,rfl,hB,rfl⟩) ?_
      rintro ⟨k,d2,p2,q2⟩ hID ihD
      try (dsimp only at hID)
      try dsimp only
      obtain ⟨hk,hdq,hB2,hcn2⟩:=hID
      by_cases hc2:k < 2
      ·have g7:decide ((k:Int) < 2)=true:=decide_eq_true (by omega)
       have hE:=tryK_succ (n:=f.dead.length) (v:=v) (p:=(d1,q1)) (a:=f.links[i].a) (b:=f.links[i].b) hc2
       rw [← hdq] at hE
       have hy:Edge f Wk (endK f.links[i].a f.links[i].b k) (endK f.links[i].b f.links[i].a k):=by
        unfold endK
        split
        ·exact ⟨i,_,hl,hWt,.inl ⟨rfl,rfl⟩⟩
        ·exact ⟨i,_,hl,hWt,.inr ⟨rfl,rfl⟩⟩
       refine Wq<|qW 145 146 rfl<|qK rfl<|Nl<|Wq<|Wt rfl ‹_›<|Wu<|Wq<|Wb<|Wq<|qW 150 153 rfl<|Od rfl rfl (LO.index_agg rfl rfl rfl rfl ty148 ty147 rfl (by omega) (tk_ends _ _ hc2))<|qB rfl ty147<|qS rfl ty147 (Sl rfl) rfl<|Nl ?_
       generalize endK f.links[i].a f.links[i].b k=y0 at hE hy
       generalize endK f.links[i].b f.links[i].a k=y1 at hE hy
       obtain ⟨z1,z2,z3,z4⟩:=hw.edge hy
       have hlen:=hB2.len
       have hlt:=hB2.toDBase.lt y0
       have hge:=hB2.ge y0
       obtain ⟨hN,_,_,hN2⟩:=hB2.try_ hy z3 z4
       have g8:decide (y1 < (f.dead.length:Int))=true:=decide_eq_true z4
       by_cases e1:y0=v
       ·have g9:(y0 == v)=true:=by simp [e1]
        by_cases e2:gI d2 y1 < 0
        ·have g10:decide (gI d2 y1 < 0)=true:=decide_eq_true e2
         have hE2:tryQ f.dead.length v (d2,q2) y0 y1=(sI d2 y1 (gI d2 y0 + 1),q2++[y1]):=if_pos ⟨e1,z4,e2⟩
         refine Wq<|Wd 157 178 (by decide) rfl mixed rfl<|Od rfl rfl (Ir rfl rfl rfl rfl ty147 ty3 (by decide))<|qL rfl ty3 rfl<|qM rfl<|Od rfl rfl (Ia rfl rfl rfl rfl ty22 ty3 (by simp;done))<|Od rfl rfl (Ld rfl rfl rfl q_head ty3 rfl)<|qE rfl<|qM rfl<|qU rfl ‹_› rfl (Ir rfl rfl rfl rfl ty147 ty3 (by decide))<|gL rfl ‹_› ty3 rfl<|gM rfl ‹_›<|qU rfl ‹_› rfl (LO.len rfl rfl ty22)<|gK rfl ‹_›<|qT rfl ‹_› rfl<|qM rfl<|gM rfl ‹_›<|qU rfl ‹_› rfl (Ir rfl rfl rfl rfl ty147 ty3 (by decide))<|gL rfl ‹_› ty3 rfl<|qU rfl ‹_› rfl (Ia rfl rfl rfl (Int.toNat_of_nonneg z3).symm ty22 ty3 (by omega))<|qU rfl ‹_› rfl (Ld rfl rfl rfl (gi_at z3 (by omega)) ty3 rfl)<|gK rfl ‹_›<|qT rfl ‹_› rfl<|Nl ⟨by kernel_rfl,(Wt rfl ‹_›<|Wq<|Wd 182 193 (by decide) rfl mixed rfl<|qM rfl<|Od rfl rfl (Ir rfl rfl rfl rfl ty147 ty3 (by decide))<|qL rfl ty3 rfl<|qM rfl<|Od rfl rfl (Ir rfl rfl rfl rfl ty147 ty3 (by decide))<|qL rfl ty3 rfl<|Od rfl rfl (Ia rfl rfl rfl (Int.toNat_of_nonneg z1).symm ty22 ty3 (by omega))<|Od rfl rfl (Ld rfl rfl rfl (gi_at z1 (by omega)) ty3 rfl)<|qZ rfl (iW _ (by omega))<|Od rfl rfl (Ia rfl rfl rfl (Int.toNat_of_nonneg z3).symm ty22 ty3 (by omega))<|qS rfl ty3 (si_at z3 (by omega)) rfl<|Nl ⟨by kernel_rfl,?_⟩)⟩
         have hlq:(v::q2).length≤20:=by rw [List.length_cons];omega
         refine qW 197 203 rfl<|qM rfl<|Od rfl rfl (Ir rfl rfl rfl rfl ty147 ty3 (by decide))<|qL rfl ty3 rfl<|Od rfl rfl (LO.buildSlice rfl ty22 ty3 (by decide) (by decide) (.cons rfl rfl rfl rfl (Sl rfl) .nil))<|Od rfl rfl (Lap rfl rfl (Sso rfl rfl (Tl rfl)) rfl q_tk ty22 ty22 ty3 (by decide) (by omega) (by omega) (by decide))<|qA rfl<|Nl<|qW 207 209 rfl<|qZ rfl (iW _ (by omega))<|qM rfl<|Nl ?_
         rw [hE2] at hE hN hN2
         rw [show intsC (v::q2)++[AV.base (.int .i64 y1)]=intsC ([]++v::(q2++[y1])) from by simp [intsC],show (v::q2).length + 1=(v::(q2++[y1])).length from by simp]
         refine WL.rename [(0,0),(1,1),(2,201)] 3 (by decide) ?_ ?_ (ihD ((k + 1),(sI d2 y1 (gI d2 y0 + 1)),(([]:List Int)),(q2++[y1])) (show 2 - (k + 1) < 2 - k from by omega) (show (k + 1)≤2∧((sI d2 y1 (gI d2 y0 + 1)),(q2++[y1]))=tryK f.dead.length v (d1,q1) f.links[i].a f.links[i].b (k + 1)∧Bq f Wk f.dead.length to v i (sI d2 y1 (gI d2 y0 + 1)) (q2++[y1])∧(q2++[y1]).length + cntN (sI d2 y1 (gI d2 y0 + 1))=q1.length + cntN d1 from ⟨by omega,hE.symm,hN,hN2.trans hcn2⟩))
         ·exact aU (lR rfl) (aU (lR rfl) (aU (lR rfl) (aU (lR rfl) (aU (lR rfl) (aU (lI rfl) (aU (lI rfl) (aU (lI rfl) (aU (lR rfl) aM))))))))
         ·exact aU (kP rfl (intsC_pure _)) (aU (kP rfl (intsC_pure _)) (aU (kR rfl) aM))
        ·have g10:decide (gI d2 y1 < 0)=false:=decide_eq_false e2
         have hE2:tryQ f.dead.length v (d2,q2) y0 y1=(d2,q2):=if_neg fun h=>e2 h.2.2
         refine Wq<|Wd 157 178 (by decide) rfl mixed rfl<|Od rfl rfl (Ir rfl rfl rfl rfl ty147 ty3 (by decide))<|qL rfl ty3 rfl<|qM rfl<|Od rfl rfl (Ia rfl rfl rfl rfl ty22 ty3 (by simp;done))<|Od rfl rfl (Ld rfl rfl rfl q_head ty3 rfl)<|qE rfl<|qM rfl<|qU rfl ‹_› rfl (Ir rfl rfl rfl rfl ty147 ty3 (by decide))<|gL rfl ‹_› ty3 rfl<|gM rfl ‹_›<|qU rfl ‹_› rfl (LO.len rfl rfl ty22)<|gK rfl ‹_›<|qT rfl ‹_› rfl<|qM rfl<|gM rfl ‹_›<|qU rfl ‹_› rfl (Ir rfl rfl rfl rfl ty147 ty3 (by decide))<|gL rfl ‹_› ty3 rfl<|qU rfl ‹_› rfl (Ia rfl rfl rfl (Int.toNat_of_nonneg z3).symm ty22 ty3 (by omega))<|qU rfl ‹_› rfl (Ld rfl rfl rfl (gi_at z3 (by omega)) ty3 rfl)<|gK rfl ‹_›<|qT rfl ‹_› rfl<|Nl ⟨by kernel_rfl,(Wo rfl ‹_›<|Wu<|qW 207 209 rfl<|qZ rfl (iW _ (by omega))<|qM rfl<|Nl ?_)⟩
         rw [hE2] at hE hN hN2
         refine WL.rename [(0,0),(1,1),(2,2)] 3 (by decide) ?_ ?_ (ihD ((k + 1),d2,p2,q2) (show 2 - (k + 1) < 2 - k from by omega) (show (k + 1)≤2∧(d2,q2)=tryK f.dead.length v (d1,q1) f.links[i].a f.links[i].b (k + 1)∧Bq f Wk f.dead.length to v i d2 q2∧q2.length + cntN d2=q1.length + cntN d1 from ⟨by omega,hE.symm,hN,hN2.trans hcn2⟩))
         ·exact aU (lR rfl) (aU (lR rfl) (aU (lR rfl) (aU (lR rfl) (aU (lR rfl) (aU (lI rfl) (aU (lI rfl) (aU (lI rfl) (aU (lR rfl) aM))))))))
         ·exact aU (kP rfl (intsC_pure _)) (aU (kP rfl (intsC_pure _)) (aU (kR rfl) aM))
       ·have g9:(y0 == v)=false:=by simp [e1]
        have hE2:tryQ f.dead.length v (d2,q2) y0 y1=(d2,q2):=if_neg fun h=>e1 h.1
        refine Wq<|Wd 157 178 (by decide) rfl mixed rfl<|Od rfl rfl (Ir rfl rfl rfl rfl ty147 ty3 (by decide))<|qL rfl ty3 rfl<|qM rfl<|Od rfl rfl (Ia rfl rfl rfl rfl ty22 ty3 (by simp;done))<|Od rfl rfl (Ld rfl rfl rfl q_head ty3 rfl)<|qE rfl<|qM rfl<|qD rfl ‹_› rfl<|qD rfl ‹_› rfl<|qD rfl ‹_› rfl<|qD rfl ‹_› rfl<|qD rfl ‹_› rfl<|qP rfl ‹_› rfl<|qM rfl<|qD rfl rfl rfl<|qD rfl rfl rfl<|qD rfl rfl rfl<|qD rfl rfl rfl<|qD rfl rfl rfl<|qD rfl rfl rfl<|qP rfl rfl rfl<|Nl ⟨by kernel_rfl,(Wo rfl rfl<|Wu<|qW 207 209 rfl<|qZ rfl (iW _ (by omega))<|qM rfl<|Nl ?_)⟩
        rw [hE2] at hE hN hN2
        refine WL.rename [(0,0),(1,1),(2,2)] 3 (by decide) ?_ ?_ (ihD ((k + 1),d2,p2,q2) (show 2 - (k + 1) < 2 - k from by omega) (show (k + 1)≤2∧(d2,q2)=tryK f.dead.length v (d1,q1) f.links[i].a f.links[i].b (k + 1)∧Bq f Wk f.dead.length to v i d2 q2∧q2.length + cntN d2=q1.length + cntN d1 from ⟨by omega,hE.symm,hN,hN2.trans hcn2⟩))
        ·exact aU (lR rfl) (aU (lR rfl) (aU (lR rfl) (aU (lR rfl) (aU (lR rfl) (aU (lI rfl) (aU (lI rfl) (aU (lI rfl) (aU (lR rfl) aM))))))))
        ·exact aU (kP rfl (intsC_pure _)) (aU (kP rfl (intsC_pure _)) (aU (kR rfl) aM))
      ·have g7:decide ((k:Int) < 2)=false:=decide_eq_false (by omega)
       refine Wq<|qW 145 146 rfl<|qK rfl<|Nl<|Wq<|Wo rfl ‹_›<|Wx ?_
       obtain rfl:k=2:=by omega
       have hn:=hB.next hw
       rw [show scanQ f Wk f.dead.length v (d1,q1) i=(d2,q2) from by unfold scanQ;rw [hl];simp only [hWt,if_true];exact hdq.symm] at hn
       refine qW 213 215 rfl<|qZ rfl (iW _ (by omega))<|qM rfl<|Nl<|WL.rename [(0,0),(1,1),(2,2)] 3 (by decide) ?_ ?_ (ihC ((i + 1),d2,p2,q2) (show f.links.length - (i + 1) < f.links.length - i from by omega) (show (Bq f Wk f.dead.length to v (i + 1) d2 q2∧q2.length + cntN d2=q.length + cntN d)∧(i + 1)≤f.links.length from ⟨⟨hn.1,hn.2.trans hcnt⟩,by omega⟩))
       ·exact aU (lR rfl) (aU (lR rfl) (aU (lR rfl) (aU (lI rfl) (aU (lI rfl) (aU (lI rfl) (aU (lR rfl) aM))))))
       ·exact aU (kP rfl (intsC_pure _)) (aU (kP rfl (intsC_pure _)) (aU (kR rfl) aM))
    ·have g4:decide ((i:Int) < (f.links.length:Int))=false:=decide_eq_false (by omega)
     refine Wq<|qW 101 102 rfl<|qK rfl<|Nl<|Wq<|Wo rfl ‹_›<|Wx ?_
     obtain rfl:i=f.links.length:=by omega
     refine qW 219 222 rfl<|qM rfl<|Od rfl rfl (LO.slice rfl rfl (Ba rfl rfl) Bnd.no (by simp;done) (by omega) ty22 ty3)<|qA rfl<|Nl ?_
     rw [show p1.length + 1 * 1=(p1++[v]).length from by simp,show p1++v::q1=(p1++[v])++q1 from by simp]
     refine WL.rename [(0,0),(1,1),(2,2)] 3 (by decide) ?_ ?_ (ihB (d1,(p1++[v]),q1) (show q1.length + cntN d1 < (v::q).length + cntN d from by rw [hcnt,List.length_cons];omega) (show QS f Wk f.dead.length to d1 q1∧q1.length + cntN d1≤f.dead.length + 1 from ⟨hB.qs,by omega⟩))
     ·exact aU (lI rfl) (aU (lI rfl) (aU (lI rfl) (aU (lR rfl) aM)))
     ·exact aU (kP rfl (intsC_pure _)) (aU (kP rfl (intsC_pure _)) (aU (kR rfl) aM))
end Go.Proofs.YtdflnmfjpoodlaaGreatDoor
namespace Go.Proofs.YtdflnmfjpoodlaaGreatDoor
open Go.ChangeShapes Go.WideShapes Go.ChangeAt Go.RowKit
set_option maxRecDepth 20000 in
theorem open_ints {H:Type} {enc:TypeId × Value→H} {w:World} {base:Nat} {spare:Nat→Bool} {held:Bool} {fuel:Nat} {t te:TypeId} {q:IntKind} {n:Nat} {cs:List Value} {y:DataW H × List MemPlace}
 (ht:Tryz.prog.underlying t=some (.array n te)) (hte:Tryz.prog.underlying te=some (.int q)) (hce:Tryz.prog.cellsOf te=1) (hc:Tryz.prog.cellsOf t=n) (h:DataW.trod enc Tryz.prog w base spare held fuel t cs=some y) :
 ∃ ks:List Int,cs=ks.map (Value.int q)∧y.1=.agg (ks.map fun k=>.lit (.int q k)):=by
 obtain ⟨xs,m,_,hx,hl,hn,hel⟩:=DataW.trod_array ht h
 rw [hc] at hl
 rw [hce] at hel
 have key:∀ i,i < n→∃ k:Int,cs[i]?=some (.int q k)∧(xs[i]?).map (·.1)=some (.lit (.int q k)):=fun i hi=>by
  have h1:=hel i hi
  rw [Nat.mul_one] at h1
  have h2:xs[i]?=some xs[i]:=List.getElem?_eq_getElem (by omega)
  rw [h2] at h1
  obtain ⟨k,e1,e2,_⟩:=DataW.trod_int hte h1
  refine ⟨k,?_,by rw [h2];simp [e2]⟩
  have h3:((cs.drop i).take 1)[0]?=some (.int q k):=by rw [e1];rfl
  simpa using h3
 have hks:∃ ks:List Int,ks.length=n∧∀ i,i < n→∀ k,cs[i]?=some (.int q k)→ks[i]?=some k:=by
  refine ⟨cs.map fun v=>match v with
   | .int _ z=>z
   | _=>0,by simpa using hl,fun i hi k hk=>by simp [hk]⟩
 obtain ⟨ks,hkl,hk⟩:=hks
 refine ⟨ks,?_,?_⟩
 ·refine List.ext_getElem? fun i=>?_
  by_cases hi:i < n
  ·obtain ⟨k,h1,_⟩:=key i hi
   rw [h1,List.getElem?_map,hk i hi k h1];rfl
  ·rw [List.getElem?_eq_none (by omega),List.getElem?_eq_none (by simp;omega)]
 ·rw [hx]
  show DataW.agg _=_
  congr 1
  refine List.ext_getElem? fun i=>?_
  by_cases hi:i < n
  ·obtain ⟨k,h1,h2⟩:=key i hi
   rw [List.getElem?_map,h2,List.getElem?_map,hk i hi k h1];rfl
  ·rw [List.getElem?_eq_none (by simp;omega),List.getElem?_eq_none (by simp;omega)]
theorem litq_inj {H:Type} {q:IntKind} {a b:List Int} (h:(a.map fun k=>(DataW.lit (.int q k):DataW H))=b.map fun k=>.lit (.int q k)):a=b:=by
 induction a generalizing b with
 | nil=>cases b with
  | nil=>rfl
  | cons y b=>cases h
 | cons x a ih =>
  cases b with
  | nil=>cases h
  | cons y b =>
   simp only [List.map_cons,List.cons.injEq,DataW.lit.injEq,Lit.int.injEq,true_and] at h
   rw [h.1,ih h.2]
theorem laid_row {W:World} {nm:String} {g:Nat} {t te:TypeId} {q:IntKind} {n:Nat} {cs:Array Value} {fuel:Nat} {p:List MemPlace} {ks:List Int} {d:DataW Unit} (hd0:d=.agg (ks.map fun k=>.lit (.int q k))) (hne:ks≠[])
 (hg:Tryz.prog.globalNamed nm=some g) (ht:Tryz.prog.underlying t=some (.array n te)) (hte:Tryz.prog.underlying te=some (.int q)) (hce:Tryz.prog.cellsOf te=1) (hc:Tryz.prog.cellsOf t=n)
 (hv:W.var? Tryz.prog nm=some cs) (hd:DataW.trod (fun _=>()) Tryz.prog W 0 (fun _=>true) false fuel t cs.toList=some (d,p)) :
 g < W.heap.size∧∀ (i:Nat) v,(ks.map (Value.int q))[i]?=some v→W.cell? ⟨g,i,none⟩=some v:=by
 obtain ⟨ks',e1,e2⟩:=open_ints ht hte hce hc hd
 rw [hd0] at e2
 have e3:=litq_inj (DataW.agg.inj e2)
 subst e3
 obtain ⟨l⟩:=cs
 simp only at e1
 subst e1
 have hcell:∀ i,W.cell? ⟨g,i,none⟩=(ks.map (Value.int q)).toArray[i]?:=fun i=>World.var?_cell hg hv i
 refine ⟨?_,fun i v hv=>?_⟩
 ·cases ks with
  | nil=>exact absurd rfl hne
  | cons k ks=>exact World.block_lt_of_cell? W _ ((hcell 0).trans (by rfl))
 ·rw [hcell i,← hv,List.getElem?_toArray]
theorem Tryz.gH : Tryz.prog.globalNamed "exchangepoint/arp.head" = some 0 := by kernel_rfl
theorem Tryz.gP : Tryz.prog.globalNamed "internal/strconv.uint64pow10" = some 2 := by kernel_rfl
theorem Tryz.gD : Tryz.prog.globalNamed "math/bits.deBruijn64tab" = some 8 := by kernel_rfl
theorem Tryz.tyH:(Tryz.prog.globals[0]?).map (·.type)=some 54:=by kernel_rfl
theorem Tryz.tyP:(Tryz.prog.globals[2]?).map (·.type)=some 321:=by kernel_rfl
theorem Tryz.tyD:(Tryz.prog.globals[8]?).map (·.type)=some 348:=by kernel_rfl
theorem ty_of {nm:String} {g g':Nat} {t t':TypeId} (hg:Tryz.prog.globalNamed nm=some g) (ht:(Tryz.prog.globals[g]?).map (·.type)=some t) (hg':Tryz.prog.globalNamed nm=some g') (ht':(Tryz.prog.globals[g']?).map (·.type)=some t'):t'=t:=by
 obtain rfl:=Option.some.inj (hg.symm.trans hg')
 exact (Option.some.inj (ht.symm.trans ht')).symm
theorem open_max {W:World} (h:W.ShapedOpen Tryz.prog):∃ m,W.cell? ⟨1,0,none⟩=some (.int .i64 m) :=
 cell_of_shapedOpen_int (t:=3) (zero:=#[.int .i64 0]) h (of_decide_eq_true (by kernel_rfl)) (by kernel_rfl) rfl (by kernel_rfl) (by kernel_rfl) Tryz.underlying3
theorem glob_of_laidT {W : World} (hs : W.ShapedOpen Tryz.prog) (h : laidMetH Tryz.prog [("math/bits.deBruijn32tab", Rows.laid_math_bits_deBruijn32tab), ("math/bits.deBruijn64tab", Rows.laid_math_bits_deBruijn64tab), ("internal/strconv.uint64pow10", Rows.laid_internal_strconv_uint64pow10), ("unicode/utf8.acceptRanges", Rows.laid_unicode_utf8_acceptRanges), ("strconv.ErrRange", Rows.laid_strconv_ErrRange), ("strconv.ErrSyntax", Rows.laid_strconv_ErrSyntax), ("exchangepoint/arp.head", Rows.laid_exchangepoint_arp_head), ("unicode/utf8.first", Rows.laid_unicode_utf8_first)] W) : Glob (fun _ => False) W := by
 rw [MakeChecks.laidMetH_plain _ _ _ (by kernel_rfl)] at h
 obtain ⟨ps,⟨g0,t0,cs0,f0,p0,q0,hg0,ht0,hv0,hd0,⟨g1,t1,cs1,f1,p1,q1,hg1,ht1,hv1,hd1,⟨g2,t2,cs2,f2,p2,q2,hg2,ht2,hv2,hd2,⟨g3,t3,cs3,f3,p3,q3,hg3,ht3,hv3,hd3,⟨g4,t4,cs4,f4,p4,q4,hg4,ht4,hv4,hd4,⟨g5,t5,cs5,f5,p5,q5,hg5,ht5,hv5,hd5,⟨g6,t6,cs6,f6,p6,q6,hg6,ht6,hv6,hd6,_,_⟩,_⟩,_⟩,_⟩,_⟩,_⟩,_⟩,_,_⟩:=h
 obtain rfl:=ty_of Tryz.gD Tryz.tyD hg1 ht1
 obtain rfl:=ty_of Tryz.gP Tryz.tyP hg2 ht2
 obtain rfl:=ty_of Tryz.gH Tryz.tyH hg6 ht6
 obtain ⟨a1,a2⟩:=laid_row (ks:=[0,1,56,2,57,49,28,3,61,58,42,50,38,29,17,4,62,47,59,36,45,43,51,22,53,39,33,30,24,18,12,5,63,55,48,27,60,41,37,16,46,35,44,21,52,32,23,11,54,26,40,15,34,20,31,10,25,14,19,9,13,8,7,6]) (q:=.u8) rfl (fun h=>by cases h) Tryz.gD Tryz.underlying348 Tryz.underlying5 (by kernel_rfl) (by kernel_rfl) hv1 hd1
 obtain ⟨b1,b2⟩:=laid_row (ks:=[1,10,100,1000,10000,100000,1000000,10000000,100000000,1000000000,10000000000,100000000000,1000000000000,10000000000000,100000000000000,1000000000000000,10000000000000000,100000000000000000,1000000000000000000,10000000000000000000]) (q:=.u64) rfl (fun h=>by cases h) Tryz.gP Tryz.underlying321 Tryz.underlying25 (by kernel_rfl) (by kernel_rfl) hv2 hd2
 obtain ⟨c1,c2⟩:=laid_row (ks:=[0,1,8,0,6,4]) (q:=.u8) rfl (fun h=>by cases h) Tryz.gH Tryz.underlying54 Tryz.underlying5 (by kernel_rfl) (by kernel_rfl) hv6 hd6
 obtain ⟨m,hm⟩:=open_max hs
 refine ⟨fun g vs hg=>?_,fun g hg=>?_⟩
 ·unfold gRaw at hg
  split at hg
  ·injection hg with hg;subst hg;exact ⟨c1,fun h=>h,c2⟩
  ·injection hg with hg;subst hg;exact ⟨b1,fun h=>h,b2⟩
  ·injection hg with hg;subst hg;exact ⟨a1,fun h=>h,a2⟩
  ·cases hg
 ·have:=Nat.eq_of_beq_eq_true hg
  subst this
  exact ⟨World.block_lt_of_cell? W _ hm,fun h=>h,m,hm⟩
theorem returns_and_shaped {H:Type} {enc:TypeId × Value→H} {a:Assume} {C:Checked} {os:Os} {f:FuncId} {fn:Func} {s:ChangeSpec} {conds:List PathCond} {apart fresh handsOn again:Bool} {X:World→Array Value→Prop}
 (hX:∀ (w w':World) (args:Array Value),w.heap=w'.heap→X w args→X w' args)
 (own:ownKnob C.prog.godebug=none) (started:os.Started) (noInit:C.prog.inits.idxOf? f=none) (hfn:C.prog.funcs[f]?=some fn)
 (witness:∃ (w:World) (tape:Tape) (i:Input),w.os=os∧(w.forCall tape i).Shaped C.prog∧i.vars=[]∧Input.okWide C.prog (w.forCall tape i) .any w.heap.size f i ∧
  ((s.pre enc C.prog fn conds apart (w.forCall tape i).memory i.args∧X (w.forCall tape i).memory i.args)∧sizedMet enc C.prog fn (OpenSpec.ofChange s) apart (w.forCall tape i).memory i.args)∧a.holds C.prog (lone (Frame.enter C.prog f i.args .normal) [] (w.forCall tape i)))
 (contract:∀ (W:World) (base:Nat) (args:Array Value) (ds gs:List (DataW H)) (before:List MemPlace),
  (∀ (j:Nat) t v,fn.params[j]?=some t→args[j]?=some v→Value.okWide C.prog W .any base t v) →
  DataW.Whole enc C.prog fn.params.toList s.vars apart W args.toList ds gs before →
  W.ShapedOpen C.prog→X W args →
  Calls C.prog f args W fun e W'=>∃ v,e=.returned v∧s.post enc C.prog fn apart fresh handsOn again W args v W') :
 ReturnsInHanded a C os f .any (fun w args=>(s.pre enc C.prog fn conds apart w args∧X w args)∧sizedMet enc C.prog fn (OpenSpec.ofChange s) apart w args) (s.post enc C.prog fn apart fresh handsOn again):=by
 refine returnsInHanded_of_calls own started noInit witness ?_
 intro w tape i _ hsh _ hok hpre hholds
 obtain ⟨_,_,_,fn',hfn',_,_,_,_,hval⟩:=hok
 have e:fn'=fn:=Option.some.inj (hfn'.symm.trans hfn)
 subst e
 obtain ⟨⟨⟨ds,gs,before,hw,hc⟩,hx⟩,hz⟩:=hpre
 have hw':=DataW.Whole.of_heap (w':=w.forCall tape i) (by rfl) hw
 refine (contract (w.forCall tape i) w.heap.size i.args ds gs before hval hw' hsh (hX _ _ _ (by rfl) hx)).mono fun e W' ⟨v,he,hp⟩=>?_
 subst he
 exact ChangeSpec.post_blind hp
section
variable {H:Type} {enc:TypeId × Value→H}
theorem opInt:Opens enc Tryz.prog 3 (fun (z:Int)=>[.base (.int .i64 z)]) (fun z=>(Lit.int .i64 z).wf=true):=.int Tryz.underlying3
theorem opInts:Opens enc Tryz.prog 22 (fun (l:List Int)=>[.isl (intsC l) l.length]) (fun l=>l.length≤9223372036854775807) :=
 (Opens.slice (n:=1) Tryz.underlying22 opInt (by kernel_rfl) (by decide) (fun _ _=>rfl)).map id (fun l _=>by unfold intsC;rw [List.map_eq_flatMap];rfl) (fun l h=>by have:=h.1;unfold maxLen at this;simp only [id];omega)
end
end Go.Proofs.YtdflnmfjpoodlaaGreatDoor
