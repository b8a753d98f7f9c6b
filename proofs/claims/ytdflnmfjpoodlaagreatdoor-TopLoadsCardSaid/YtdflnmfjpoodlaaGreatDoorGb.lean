/-
  The fabric that is made from a list of numbers: a valid one, whatever the numbers are. Failed, cuts of both texts, comparing lists of numbers. Which fabrics are valid: both texts. The greatest amount between two switches: both texts. Plain laws of distances, parts and flows (no program in sight). The example of chapter 13; comparing lists of numbers. FabricWays and FabricFlows return true. FabricSteps returns true.
-/
import Derived.Test.YtdflnmfjpoodlaaGreatDoorFb
import Derived.Test.YtdflnmfjpoodlaaGreatDoorMab
import Derived.Test.YtdflnmfjpoodlaaGreatDoorFp
namespace Go.Proofs.YtdflnmfjpoodlaaGreatDoor
open Go.RowKit
theorem nextV_bd (l:List Int) (at_:Nat) (n:Int) (hn:1≤n):0≤nextV l at_ n∧nextV l at_ n < n:=by
 unfold nextV
 split
 ·exact ⟨Int.emod_nonneg _ (by omega),Int.emod_lt_of_pos _ (by omega)⟩
 ·omega
def LnkOK (sw:Int) (x:Lnk):Prop:=0≤x.a∧x.a < sw∧0≤x.b∧x.b < sw∧x.a≠x.b∧1≤x.c∧x.c≤10
theorem lnkOK {sw a b c:Int} (h1:0≤a) (h2:a < sw) (h3:0≤b) (h4:b < sw) (h5:a≠b) (h6:1≤c) (h7:c≤10):LnkOK sw ⟨a,b,c⟩:=⟨h1,h2,h3,h4,h5,h6,h7⟩
structure FabOK (f:Fab):Prop where
 sw1:1≤f.sw
 sw7:f.sw≤7
 links:∀ x∈f.links,LnkOK f.sw x
 nlinks:f.links.length≤17
 down:f.down.length=f.links.length
 dead:(f.dead.length:Int)=f.sw
theorem lnksC_pure (l:List Lnk):(lnksC l).all AV.pure1=true:=by
 induction l with
 | nil=>rfl
 | cons x l ih=>rw [show lnksC (x::l)=lnkC x++lnksC l from rfl,List.all_append,ih];rfl
theorem boolsC_pure (l:List Bool):(boolsC l).all AV.pure1=true:=by
 induction l with
 | nil=>rfl
 | cons x l ih=>rw [show boolsC (x::l)=[.base (.bool x)]++boolsC l from rfl,List.all_append,ih];rfl
def LksAt (sw:Int) (n:Nat) (cs:List AV):Prop:=∃ ls:List Lnk,n=ls.length∧cs=lnksC ls∧∀ x∈ls,LnkOK sw x
theorem LksAt.len {sw:Int} {n:Nat} {cs:List AV} (h:LksAt sw n cs):cs.length=n * 3:=by obtain ⟨ls,rfl,rfl,_⟩:=h;exact lnksC_len ls
theorem LksAt.pure {sw:Int} {n:Nat} {cs:List AV} (h:LksAt sw n cs):cs.all AV.pure1=true:=by obtain ⟨ls,rfl,rfl,_⟩:=h;exact lnksC_pure ls
theorem LksAt.snoc {sw:Int} {n:Nat} {cs:List AV} {a b c:Int} (h:LksAt sw n cs) (hx:LnkOK sw ⟨a,b,c⟩):LksAt sw (n + 1) (cs++[.base (.int .i64 a),.base (.int .i64 b),.base (.int .i64 c)]):=by
 obtain ⟨ls,rfl,rfl,hl⟩:=h
 refine ⟨ls++[⟨a,b,c⟩],by simp,by simp [lnksC,lnkC],fun x hx'=>?_⟩
 rcases List.mem_append.1 hx' with h|h
 ·exact hl x h
 ·simp at h;subst h;exact hx
def BlsAt (n:Nat) (cs:List AV):Prop:=∃ bs:List Bool,n=bs.length∧cs=boolsC bs
theorem BlsAt.len {n:Nat} {cs:List AV} (h:BlsAt n cs):cs.length=n * 1:=by obtain ⟨ls,rfl,rfl⟩:=h;simp [boolsC]
theorem BlsAt.pure {n:Nat} {cs:List AV} (h:BlsAt n cs):cs.all AV.pure1=true:=by obtain ⟨ls,rfl,rfl⟩:=h;exact boolsC_pure ls
theorem BlsAt.snoc {n:Nat} {cs:List AV} (b:Bool) (h:BlsAt n cs):BlsAt (n + 1) (cs++[.base (.bool b)]):=by
 obtain ⟨ls,rfl,rfl⟩:=h
 exact ⟨ls++[b],by simp,by simp [boolsC]⟩
theorem tk_all {cs:List AV} {n sz:Nat} (h:cs.length=n * sz):Tk cs 0 (n * sz) cs:=by rw [← h];exact Tk.all cs
set_option maxRecDepth 100000 in
theorem fabric_any (l:List Int) (at_ n:Nat) (hn:1≤n) (hn4:n≤4) (hl:l.length≤9223372036854775807) :
 ∃ v H',AFn Tryz.prog 8 1 [.own 0 0,.base (.int .i64 (n:Int))] (up mt 0 (some (deckC l at_))) v H'∧∃ (f:Fab) (at':Nat),(FabOK f∧(n:Int)≤f.sw)∧v=.agg (fabC f)∧H'=up mt 0 (some (deckC l at')):=by
 refine AFn.ex Tryz.func8 rfl rfl (Nat.le_of_ble_eq_true rfl) ?_
 have hv:=nextV_bd l at_ 4 (by decide)
 refine Wq<|qW 1 2 rfl<|qB rfl ty41<|Nl<|Wq<|qW 6 13 rfl<|qM rfl<|qM rfl<|Od rfl rfl (C1 (fr:=[]) rfl rfl (next_any l at_ 4 (by decide) (by decide) hl) fok14 (.own rfl rfl (.cons rfl (.pure rfl) .nil)) rfl rfl rfl (Cn _ _) (by decide) rfl)<|qZ rfl (iW _ (by omega))<|Od rfl rfl (Bs rfl ty41 (.cons rfl rfl rfl rfl (Sl rfl) .nil))<|qB rfl ty41<|qS rfl ty41 (Sl rfl) rfl<|Nl ?_
 obtain ⟨sw,hsw⟩:∃ sw:Int,(n:Int) + nextV l at_ 4=sw:=⟨_,rfl⟩
 rw [hsw]
 have hs1:(n:Int)≤sw:=by omega
 have hs7:sw≤7:=by omega
 clear hsw hv
 refine Wq<|qW 17 22 rfl<|qF rfl ty41 rfl<|qL rfl ty3 rfl<|Od rfl rfl (LO.min rfl rfl rfl)<|qF rfl ty41 rfl<|qS rfl ty3 (Sl rfl) rfl<|Nl ?_
 rw [if_neg (show ¬ (8:Int) < sw by omega)]
 generalize nextAt l at_=a1
 have hk:=nextV_bd l a1 12 (by decide)
 refine Wq<|Wq<|qW 26 29 rfl<|qM rfl<|Od rfl rfl (C1 (fr:=[]) rfl rfl (next_any l a1 12 (by decide) (by decide) hl) fok14 (.own rfl rfl (.cons rfl (.pure rfl) .nil)) rfl rfl rfl (Cn _ _) (by decide) rfl)<|qA rfl<|Nl ?_
 generalize nextV l a1 12=k at hk
 generalize nextAt l a1=a2
 refine Wb<|W.namec 29 (29 + 1) (q:=11) (j:=1) (sz:=3) rfl rfl (Sl rfl) (by decide) (by decide) (by decide)<|W.rename [(0,0),(1,1),(2,11),(3,29)] 4 (T':=up (up (up (up mt 6 (some (.base (.int .i64 k)))) 5 (some (.own 2 0))) 4 (some (.own 1 0))) 0 (some (.own 0 0))) (H':=up (up (up (up mt 3 (some [])) 2 (some [.base (.int .i64 sw),.osl 3 0 0 3,.nils,.nils])) 1 (some [.base (.int .i64 0),.nils,.nils,.nils])) 0 (some (deckC l a2))) (by decide) ?_ ?_ ?_
 ·exact aU (lI rfl) (aU (lI rfl) (aU (lI rfl) (aU (lR rfl) aM)))
 ·exact aU (kR rfl) (aU (kR rfl) (aU (kI rfl) (aU (kR rfl) aM)))
 refine W.loop_ind (α:=Int × Nat × Nat × List AV) (fun x=>x.1.toNat) 4 (fun x=>up (up (up (up mt 6 (some (.base (.int .i64 x.1)))) 5 (some (.own 2 0))) 4 (some (.own 1 0))) 0 (some (.own 0 0))) (fun x=>up (up (up (up mt 3 (some x.2.2.2)) 2 (some [.base (.int .i64 sw),.osl 3 0 x.2.2.1 3,.nils,.nils])) 1 (some [.base (.int .i64 0),.nils,.nils,.nils])) 0 (some (deckC l x.2.1)))
  (fun x=>0≤x.1∧x.2.2.1 + x.1≤11∧LksAt sw x.2.2.1 x.2.2.2) (k,a2,0,[]) ⟨by omega,by simp;omega,[],rfl,rfl,fun x h=>by cases h⟩ ?_
 rintro ⟨k,a,q,cs⟩ ⟨hk0,hk1,hcs⟩ ih
 dsimp only at hk0 hk1 hcs ⊢
 by_cases hc:0 < k∧1 < sw
 ·obtain ⟨c1,c2⟩:=hc
  have g1:decide (0 < k)=true:=decide_eq_true c1
  have g2:decide (1 < sw)=true:=decide_eq_true c2
  refine Wq<|Wq<|qW 33 40 rfl<|qM rfl<|qGt rfl<|qM rfl<|gF rfl ‹_› ty41 rfl<|gL rfl ‹_› ty3 rfl<|gGt rfl ‹_›<|qT rfl ‹_› rfl<|Nl<|Wt rfl ‹_›<|Wu<|Wq<|Wb ?_
  have b1:=nextV_bd l a sw (by omega)
  refine Wq<|qW 44 49 rfl<|qM rfl<|qF rfl ty41 rfl<|qL rfl ty3 rfl<|Od rfl rfl (C1 (fr:=[]) rfl rfl (next_any l a sw (by omega) (by omega) hl) fok14 (.own rfl rfl (.cons rfl (.pure rfl) .nil)) rfl rfl rfl (Cn _ _) (by decide) rfl)<|qA rfl<|Nl ?_
  generalize nextV l a sw=va at b1
  generalize nextAt l a=a1
  have b2:=nextV_bd l a1 (sw - 1) (by omega)
  refine Wq<|Wd 53 65 (by decide) rfl mixed rfl<|qM rfl<|qZ rfl (iW _ (by omega))<|qM rfl<|qF rfl ty41 rfl<|qL rfl ty3 rfl<|Od rfl rfl (LO.sub_in rfl rfl rfl (iW _ (by omega)))<|Od rfl rfl (C1 (fr:=[]) rfl rfl (next_any l a1 (sw - 1) (by omega) (by omega) hl) fok14 (.own rfl rfl (.cons rfl (.pure rfl) .nil)) rfl rfl rfl (Cn _ _) (by decide) rfl)<|qZ rfl (iW _ (by omega))<|qF rfl ty41 rfl<|qL rfl ty3 rfl<|Od rfl rfl (LO.rem_in rfl rfl rfl (by omega) (by omega))<|qA rfl<|Nl ⟨by kernel_rfl,?_⟩
  generalize hvb:(va + 1 + nextV l a1 (sw - 1)) % sw=vb
  have b3:0≤vb∧vb < sw∧va≠vb:=by
   have h1:=Int.emod_nonneg (va + 1 + nextV l a1 (sw - 1)) (show sw≠0 by omega)
   have h2:=Int.emod_lt_of_pos (va + 1 + nextV l a1 (sw - 1)) (show 0 < sw by omega)
   refine ⟨by omega,by omega,fun e=>?_⟩
   by_cases h3:va + 1 + nextV l a1 (sw - 1) < sw
   ·rw [Int.emod_eq_of_lt (by omega) h3] at hvb;omega
   ·rw [← Int.sub_emod_right,Int.emod_eq_of_lt (by omega) (by omega)] at hvb;omega
  clear hvb b2
  generalize nextAt l a1=a2
  have b4:=nextV_bd l a2 10 (by decide)
  refine Wd 69 81 (by decide) rfl mixed rfl<|qF rfl ty41 rfl<|qL rfl ty38 rfl<|qM rfl<|qM rfl<|qM rfl<|Od rfl rfl (C1 (fr:=[]) rfl rfl (next_any l a2 10 (by decide) (by decide) hl) fok14 (.own rfl rfl (.cons rfl (.pure rfl) .nil)) rfl rfl rfl (Cn _ _) (by decide) rfl)<|qZ rfl (iW _ (by omega))<|Od rfl rfl (Bs rfl ty96 (.cons rfl rfl rfl rfl (Sl rfl) (.cons rfl rfl rfl rfl (Sl rfl) (.cons rfl rfl rfl rfl (Sl rfl) .nil))))<|Od rfl rfl (LO.buildSlice rfl ty38 ty96 (by decide) (by decide) (.cons rfl rfl rfl rfl (Sl rfl) .nil))<|Od rfl rfl (Lap rfl rfl (Sso rfl rfl (Tl rfl)) rfl (tk_all hcs.len) ty38 ty38 ty96 (by decide) (by omega) (by omega) (by decide))<|qF rfl ty41 rfl<|qS rfl ty38 (Sl rfl) rfl<|Nl ⟨by kernel_rfl,(qW 85 88 rfl<|qM rfl<|Od rfl rfl (LO.sub_in rfl rfl rfl (iW _ (by omega)))<|qA rfl<|Nl ?_)⟩
  have hcs':=hcs.snoc (a:=va) (b:=vb) (c:=1 + nextV l a2 10) (lnkOK b1.1 b1.2 b3.1 b3.2.1 b3.2.2 (by omega) (by omega))
  refine WL.rename [(0,0),(1,1),(2,2),(3,78)] 4 (by decide) ?_ ?_ (ih (k - 1,nextAt l a2,q + 1,cs++[.base (.int .i64 va),.base (.int .i64 vb),.base (.int .i64 (1 + nextV l a2 10))]) (by simp;omega) ⟨by simp;omega,by simp;omega,hcs'⟩)
  ·exact aU (lI rfl) (aU (lI rfl) (aU (lI rfl) (aU (lR rfl) aM)))
  ·exact aU (kR rfl) (aU (kR rfl) (aU (kI rfl) (aU (kP rfl hcs'.pure) aM)))
 ·rcases Int.lt_or_le 0 k with c1|c1
  case' inl =>
   have g1:decide (0 < k)=true:=decide_eq_true c1
   have g2:decide (1 < sw)=false:=decide_eq_false (fun h=>hc ⟨c1,h⟩)
   refine Wq<|Wq<|qW 33 40 rfl<|qM rfl<|qGt rfl<|qM rfl<|gF rfl ‹_› ty41 rfl<|gL rfl ‹_› ty3 rfl<|gGt rfl ‹_›<|qT rfl ‹_› rfl<|Nl<|Wo rfl ‹_›<|Wx ?_
  case' inr =>
   have g1:decide (0 < k)=false:=decide_eq_false (by omega)
   refine Wq<|Wq<|qW 33 40 rfl<|qM rfl<|qGt rfl<|qM rfl<|qD rfl ‹_› rfl<|qD rfl ‹_› rfl<|qD rfl ‹_› rfl<|qP rfl ‹_› rfl<|Nl<|Wo rfl rfl<|Wx ?_
  all_goals
   clear ih
   repeat (refine Wq ?_)
   refine qW 92 93 rfl<|qA rfl<|Nl<|Wb<|W.rename [(0,0),(1,1),(2,2),(3,3)] 4 (T':=up (up (up (up mt 9 (some (.base (.int .i64 1)))) 5 (some (.own 2 0))) 4 (some (.own 1 0))) 0 (some (.own 0 0))) (H':=up (up (up (up mt 3 (some cs)) 2 (some [.base (.int .i64 sw),.osl 3 0 q 3,.nils,.nils])) 1 (some [.base (.int .i64 0),.nils,.nils,.nils])) 0 (some (deckC l a))) (by decide) ?_ ?_ ?_
   ·exact aU (lI rfl) (aU (lI rfl) (aU (lI rfl) (aU (lR rfl) aM)))
   ·exact aU (kR rfl) (aU (kR rfl) (aU (kI rfl) (aU (kP rfl hcs.pure) aM)))
   refine W.loop_ind (α:=Int × Nat × Nat × List AV) (fun x=>(sw - x.1).toNat) 4 (fun x=>up (up (up (up mt 9 (some (.base (.int .i64 x.1)))) 5 (some (.own 2 0))) 4 (some (.own 1 0))) 0 (some (.own 0 0))) (fun x=>up (up (up (up mt 3 (some x.2.2.2)) 2 (some [.base (.int .i64 sw),.osl 3 0 x.2.2.1 3,.nils,.nils])) 1 (some [.base (.int .i64 0),.nils,.nils,.nils])) 0 (some (deckC l x.2.1)))
    (fun x=>1≤x.1∧x.1≤sw∧x.2.2.1≤10 + x.1∧LksAt sw x.2.2.1 x.2.2.2) (1,a,q,cs) ⟨Int.le_refl 1,by simp;omega,by simp;omega,hcs⟩ ?_
   clear hc c1 hcs hk1 hk0 g1
   rintro ⟨i,a,q,cs⟩ ⟨hi0,hi1,hi2,hcs⟩ ih
   dsimp only at hi0 hi1 hi2 hcs ⊢
   by_cases hc:i < sw
   ·have g1:decide (i < sw)=true:=decide_eq_true hc
    repeat (refine Wq ?_)
    refine qW 97 101 rfl<|qM rfl<|qF rfl ty41 rfl<|qL rfl ty3 rfl<|qK rfl<|Nl<|Wt rfl ‹_›<|Wu ?_
    repeat (refine Wq ?_)
    refine Wb ?_
    repeat (refine Wq ?_)
    refine qW 105 108 rfl<|qM rfl<|Od rfl rfl (C1 (fr:=[]) rfl rfl (next_any l a 4 (by decide) (by decide) hl) fok14 (.own rfl rfl (.cons rfl (.pure rfl) .nil)) rfl rfl rfl (Cn _ _) (by decide) rfl)<|qGt rfl<|Nl ?_
    generalize nextV l a 4=r1
    generalize nextAt l a=a1
    refine W.cond rfl (fun hb=>?_) (fun hb=>?_)
    ·have b1:=nextV_bd l a1 i (by omega)
     refine Wd 112 126 (by decide) rfl mixed rfl<|qF rfl ty41 rfl<|qL rfl ty38 rfl<|qM rfl<|qM rfl<|qM rfl<|Od rfl rfl (C1 (fr:=[]) rfl rfl (next_any l a1 i (by omega) (by omega) hl) fok14 (.own rfl rfl (.cons rfl (.pure rfl) .nil)) rfl rfl rfl (Cn _ _) (by decide) rfl)<|qM rfl ?_
     generalize nextV l a1 i=vb at b1
     generalize nextAt l a1=a2
     have b2:=nextV_bd l a2 10 (by decide)
     refine Od rfl rfl (C1 (fr:=[]) rfl rfl (next_any l a2 10 (by decide) (by decide) hl) fok14 (.own rfl rfl (.cons rfl (.pure rfl) .nil)) rfl rfl rfl (Cn _ _) (by decide) rfl)<|qZ rfl (iW _ (by omega))<|Od rfl rfl (Bs rfl ty96 (.cons rfl rfl rfl rfl (Sl rfl) (.cons rfl rfl rfl rfl (Sl rfl) (.cons rfl rfl rfl rfl (Sl rfl) .nil))))<|Od rfl rfl (LO.buildSlice rfl ty38 ty96 (by decide) (by decide) (.cons rfl rfl rfl rfl (Sl rfl) .nil))<|Od rfl rfl (Lap rfl rfl (Sso rfl rfl (Tl rfl)) rfl (tk_all hcs.len) ty38 ty38 ty96 (by decide) (by omega) (by omega) (by decide))<|qF rfl ty41 rfl<|qS rfl ty38 (Sl rfl) rfl<|Nl ⟨by kernel_rfl,(qW 130 133 rfl<|qM rfl<|qZ rfl (iW _ (by omega))<|qA rfl<|Nl ?_)⟩
     have hcs':=hcs.snoc (a:=i) (b:=vb) (c:=1 + nextV l a2 10) (lnkOK (by omega) (by omega) b1.1 (by omega) (by omega) (by omega) (by omega))
     refine WL.rename [(0,0),(1,1),(2,2),(3,123)] 4 (by decide) ?_ ?_ (ih (i + 1,nextAt l a2,q + 1,cs++[.base (.int .i64 i),.base (.int .i64 vb),.base (.int .i64 (1 + nextV l a2 10))]) (by simp;omega) ⟨by simp;omega,by simp;omega,by simp;omega,hcs'⟩)
     ·exact aU (lI rfl) (aU (lI rfl) (aU (lI rfl) (aU (lR rfl) aM)))
     ·exact aU (kR rfl) (aU (kR rfl) (aU (kI rfl) (aU (kP rfl hcs'.pure) aM)))
    ·refine Wu<|qW 130 133 rfl<|qM rfl<|qZ rfl (iW _ (by omega))<|qA rfl<|Nl<|WL.rename [(0,0),(1,1),(2,2),(3,3)] 4 (by decide) ?_ ?_ (ih (i + 1,a1,q,cs) (by simp;omega) ⟨by simp;omega,by simp;omega,by simp;omega,hcs⟩)
     ·exact aU (lI rfl) (aU (lI rfl) (aU (lI rfl) (aU (lR rfl) aM)))
     ·exact aU (kR rfl) (aU (kR rfl) (aU (kI rfl) (aU (kP rfl hcs.pure) aM)))
   ·have g1:decide (i < sw)=false:=decide_eq_false hc
    clear ih
    have hq:q≤17:=by omega
    clear hi0 hi1 hi2 hc
    repeat (refine Wq ?_)
    refine qW 97 101 rfl<|qM rfl<|qF rfl ty41 rfl<|qL rfl ty3 rfl<|qK rfl<|Nl<|Wo rfl ‹_›<|Wx ?_
    repeat (refine Wq ?_)
    refine qW 137 141 rfl<|qF rfl ty41 rfl<|qL rfl ty38 rfl<|Od rfl rfl (LO.len rfl rfl ty38)<|qM rfl<|Nl<|Wb<|W.namec 141 (141 + 1) (q:=2) (j:=2) (sz:=1) rfl rfl (Sl rfl) (by decide) (by decide) (by decide)<|W.rename [(0,0),(1,1),(2,2),(3,3),(4,141)] 5 (T':=up (up (up (up (up mt 80 (some (.base (.int .i64 (q:Int))))) 81 (some (.base (.int .i64 0)))) 5 (some (.own 2 0))) 4 (some (.own 1 0))) 0 (some (.own 0 0))) (H':=up (up (up (up (up mt 4 (some [])) 3 (some cs)) 2 (some [.base (.int .i64 sw),.osl 3 0 q 3,.osl 4 0 0 1,.nils])) 1 (some [.base (.int .i64 0),.nils,.nils,.nils])) 0 (some (deckC l a))) (by decide) ?_ ?_ ?_
    ·exact aU (lI rfl) (aU (lI rfl) (aU (lI rfl) (aU (lR rfl) (aU (lR rfl) aM))))
    ·exact aU (kR rfl) (aU (kR rfl) (aU (kI rfl) (aU (kP rfl hcs.pure) (aU (kR rfl) aM))))
    refine W.loop_ind (α:=Int × Nat × Nat × List AV) (fun x=>(q - x.1).toNat) 5 (fun x=>up (up (up (up (up mt 80 (some (.base (.int .i64 (q:Int))))) 81 (some (.base (.int .i64 x.1)))) 5 (some (.own 2 0))) 4 (some (.own 1 0))) 0 (some (.own 0 0))) (fun x=>up (up (up (up (up mt 4 (some x.2.2.2)) 3 (some cs)) 2 (some [.base (.int .i64 sw),.osl 3 0 q 3,.osl 4 0 x.2.2.1 1,.nils])) 1 (some [.base (.int .i64 0),.nils,.nils,.nils])) 0 (some (deckC l x.2.1)))
     (fun x=>x.1=x.2.2.1∧x.2.2.1≤q∧BlsAt x.2.2.1 x.2.2.2) (0,a,0,[]) ⟨rfl,Nat.zero_le _,[],rfl,rfl⟩ ?_
    clear g1
    rintro ⟨j,a,z,ds⟩ ⟨hj0,hj1,hds⟩ ih
    dsimp only at hj0 hj1 hds ⊢
    by_cases hc:j < q
    ·have g1:decide (j < (q:Int))=true:=decide_eq_true hc
     repeat (refine Wq ?_)
     refine qW 145 146 rfl<|qK rfl<|Nl ?_
     repeat (refine Wq ?_)
     refine Wt rfl ‹_›<|Wu ?_
     repeat (refine Wq ?_)
     refine Wb<|Wd 150 159 (by decide) rfl mixed rfl<|qF rfl ty41 rfl<|qL rfl ty39 rfl<|qM rfl<|Od rfl rfl (C1 (fr:=[]) rfl rfl (next_any l a 6 (by decide) (by decide) hl) fok14 (.own rfl rfl (.cons rfl (.pure rfl) .nil)) rfl rfl rfl (Cn _ _) (by decide) rfl)<|qE rfl<|Od rfl rfl (LO.buildSlice rfl ty39 ty4 (by decide) (by decide) (.cons rfl rfl rfl rfl (Sl rfl) .nil))<|Od rfl rfl (Lap rfl rfl (Sso rfl rfl (Tl rfl)) rfl (tk_all hds.len) ty39 ty39 ty4 (by decide) (by omega) (by omega) (by decide))<|qF rfl ty41 rfl<|qS rfl ty39 (Sl rfl) rfl<|Nl ⟨by kernel_rfl,(qW 163 165 rfl<|qZ rfl (iW _ (by omega))<|qM rfl<|Nl ?_)⟩
     have hds':=hds.snoc (nextV l a 6 == 5)
     refine WL.rename [(0,0),(1,1),(2,2),(3,3),(4,156)] 5 (by decide) ?_ ?_ (ih (j + 1,nextAt l a,z + 1,ds++[.base (.bool (nextV l a 6 == 5))]) (by simp;omega) ⟨by simp;omega,by simp;omega,hds'⟩)
     ·exact aU (lI rfl) (aU (lI rfl) (aU (lI rfl) (aU (lR rfl) (aU (lR rfl) aM))))
     ·exact aU (kR rfl) (aU (kR rfl) (aU (kI rfl) (aU (kP rfl hcs.pure) (aU (kP rfl hds'.pure) aM))))
    ·have g1:decide (j < (q:Int))=false:=decide_eq_false hc
     clear ih
     obtain rfl:z=q:=by omega
     clear hj0 hj1 hc
     repeat (refine Wq ?_)
     refine qW 145 146 rfl<|qK rfl<|Nl ?_
     repeat (refine Wq ?_)
     refine Wo rfl ‹_›<|Wx ?_
     repeat (refine Wq ?_)
     refine qW 169 172 rfl<|qF rfl ty41 rfl<|qL rfl ty3 rfl<|qM rfl<|Nl<|Wb<|W.namec 172 (172 + 1) (q:=2) (j:=3) (sz:=1) rfl rfl (Sl rfl) (by decide) (by decide) (by decide)<|W.rename [(0,0),(1,1),(2,2),(3,3),(4,4),(5,172)] 6 (T':=up (up (up (up (up mt 93 (some (.base (.int .i64 sw)))) 94 (some (.base (.int .i64 0)))) 5 (some (.own 2 0))) 4 (some (.own 1 0))) 0 (some (.own 0 0))) (H':=up (up (up (up (up (up mt 5 (some [])) 4 (some ds)) 3 (some cs)) 2 (some [.base (.int .i64 sw),.osl 3 0 z 3,.osl 4 0 z 1,.osl 5 0 0 1])) 1 (some [.base (.int .i64 0),.nils,.nils,.nils])) 0 (some (deckC l a))) (by decide) ?_ ?_ ?_
     ·exact aU (lI rfl) (aU (lI rfl) (aU (lI rfl) (aU (lR rfl) (aU (lR rfl) aM))))
     ·exact aU (kR rfl) (aU (kR rfl) (aU (kI rfl) (aU (kP rfl hcs.pure) (aU (kP rfl hds.pure) (aU (kR rfl) aM)))))
     refine W.loop_ind (α:=Int × Nat × Nat × List AV) (fun x=>(sw - x.1).toNat) 6 (fun x=>up (up (up (up (up mt 93 (some (.base (.int .i64 sw)))) 94 (some (.base (.int .i64 x.1)))) 5 (some (.own 2 0))) 4 (some (.own 1 0))) 0 (some (.own 0 0))) (fun x=>up (up (up (up (up (up mt 5 (some x.2.2.2)) 4 (some ds)) 3 (some cs)) 2 (some [.base (.int .i64 sw),.osl 3 0 z 3,.osl 4 0 z 1,.osl 5 0 x.2.2.1 1])) 1 (some [.base (.int .i64 0),.nils,.nils,.nils])) 0 (some (deckC l x.2.1)))
      (fun x=>x.1=x.2.2.1∧x.1≤sw∧BlsAt x.2.2.1 x.2.2.2) (0,a,0,[]) ⟨rfl,by simp;omega,[],rfl,rfl⟩ ?_
     clear g1
     rintro ⟨j,a,y,es⟩ ⟨hj0,hj1,hes⟩ ih
     dsimp only at hj0 hj1 hes ⊢
     by_cases hc:j < sw
     ·have g1:decide (j < sw)=true:=decide_eq_true hc
      repeat (refine Wq ?_)
      refine qW 176 177 rfl<|qK rfl<|Nl ?_
      repeat (refine Wq ?_)
      refine Wt rfl ‹_›<|Wu ?_
      repeat (refine Wq ?_)
      refine Wb<|Wd 181 190 (by decide) rfl mixed rfl<|qF rfl ty41 rfl<|qL rfl ty39 rfl<|qM rfl<|Od rfl rfl (C1 (fr:=[]) rfl rfl (next_any l a 9 (by decide) (by decide) hl) fok14 (.own rfl rfl (.cons rfl (.pure rfl) .nil)) rfl rfl rfl (Cn _ _) (by decide) rfl)<|qE rfl<|Od rfl rfl (LO.buildSlice rfl ty39 ty4 (by decide) (by decide) (.cons rfl rfl rfl rfl (Sl rfl) .nil))<|Od rfl rfl (Lap rfl rfl (Sso rfl rfl (Tl rfl)) rfl (tk_all hes.len) ty39 ty39 ty4 (by decide) (by omega) (by omega) (by decide))<|qF rfl ty41 rfl<|qS rfl ty39 (Sl rfl) rfl<|Nl ⟨by kernel_rfl,(qW 194 196 rfl<|qZ rfl (iW _ (by omega))<|qM rfl<|Nl ?_)⟩
      have hes':=hes.snoc (nextV l a 9 == 8)
      refine WL.rename [(0,0),(1,1),(2,2),(3,3),(4,4),(5,187)] 6 (by decide) ?_ ?_ (ih (j + 1,nextAt l a,y + 1,es++[.base (.bool (nextV l a 9 == 8))]) (by simp;omega) ⟨by simp;omega,by simp;omega,hes'⟩)
      ·exact aU (lI rfl) (aU (lI rfl) (aU (lI rfl) (aU (lR rfl) (aU (lR rfl) aM))))
      ·exact aU (kR rfl) (aU (kR rfl) (aU (kI rfl) (aU (kP rfl hcs.pure) (aU (kP rfl hds.pure) (aU (kP rfl hes'.pure) aM)))))
     ·have g1:decide (j < sw)=false:=decide_eq_false hc
      clear ih
      repeat (refine Wq ?_)
      refine qW 176 177 rfl<|qK rfl<|Nl ?_
      repeat (refine Wq ?_)
      refine Wo rfl ‹_›<|Wx<|Wv (q:=2) (j:=1) (r:=3) rfl rfl (by decide) rfl (tk_all hcs.len) hcs.pure (Sl rfl)<|Wv (q:=2) (j:=2) (r:=4) rfl rfl (by decide) rfl (tk_all hds.len) hds.pure (Sl rfl)<|Wv (q:=2) (j:=3) (r:=5) rfl rfl (by decide) rfl (tk_all hes.len) hes.pure (Sl rfl) ?_
      repeat (refine Wq ?_)
      refine qW 200 202 rfl<|qG rfl ty41 rfl (Tl rfl)<|qS rfl ty41 (Sl rfl) rfl<|Nl ?_
      obtain ⟨ls,hl1,hl2,hl3⟩:=hcs
      obtain ⟨bs,hb1,hb2⟩:=hds
      obtain ⟨cs',he1,he2⟩:=hes
      refine Wz ⟨.inl rfl,_,up mt 0 (some (deckC l a)),Rc (Ra0 rfl rfl ty41 rfl (Tl rfl)) Rv,aU rfl aM,?_⟩
      refine ⟨⟨sw,ls,bs,cs'⟩,a,⟨⟨by simp;omega,hs7,hl3,by simp;omega,by simp;omega,by simp;omega⟩,hs1⟩,?_,rfl⟩
      subst hl2 hb2 he2
      simp only [retOf,fabC,hl1,← hb1,← he1]
def lnkB (f:Fab) (l:Lnk):Bool:=decide (0≤l.a) && (decide (l.a < f.sw) && (decide (0≤l.b) && (decide (l.b < f.sw) && (!(l.a == l.b) && (decide (1≤l.c) && decide (l.c≤1048576))))))
def sizeB (f:Fab):Bool:=decide (1≤f.sw) && (decide (f.sw≤8) && (decide (f.links.length≤24) && (decide (f.down.length=f.links.length) && decide ((f.dead.length:Int)=f.sw))))
def validB (f:Fab):Bool:=f.links.all (lnkB f) && sizeB f
theorem all_take_succ {α:Type} {l:List α} (p:α→Bool) {i:Nat} (h:i < l.length):(l.take (i + 1)).all p=((l.take i).all p && p l[i]):=by
 rw [List.take_add_one,List.all_append]
 simp [h]
theorem validB_bad {f:Fab} {i:Nat} (h:i < f.links.length) (hb:lnkB f f.links[i]=false):validB f=false:=by
 have:f.links.all (lnkB f)=false:=List.all_eq_false.2 ⟨f.links[i],List.getElem_mem h,by rw [hb];decide⟩
 unfold validB
 rw [this];rfl
theorem validB_all {f:Fab} (h:(f.links.take f.links.length).all (lnkB f)=true):validB f=sizeB f:=by
 rw [List.take_length] at h
 unfold validB
 rw [h];rfl
theorem valid_any (f:Fab) (hb:f.links.length≤1000):AFn Tryz.prog 51 0 [.agg (fabC f)] mt (.base (.bool (validB f))) mt:=by
 refine AFn.eq Tryz.func51 rfl rfl (Nat.le_of_ble_eq_true rfl)<|Wq<|qW 0 2 rfl<|qC rfl<|qA rfl<|Nl<|Wq<|Wq<|qW 6 10 rfl<|qF rfl ty41 rfl<|qL rfl ty38 rfl<|qH rfl ty38<|qM rfl<|Nl<|Wb<|W.rename [(0,0)] 1 (T':=up (up (up (up mt 1 (some (.own 0 0))) 6 (some (.isl (lnksC f.links) f.links.length))) 7 (some (.base (.int .i64 (f.links.length:Int))))) 8 (some (.base (.int .i64 (0:Int))))) (H':=up mt 0 (some (fabC f))) (by decide) ?_ ?_ ?_
 ·exact aU (lR rfl) (aU (lR rfl) (aU (lR rfl) (aU (lI rfl) aM)))
 ·exact aU (kR rfl) aM
 refine W.loop_ind (α:=Nat) (fun x=>f.links.length - x) 1 (fun x=>up (up (up (up mt 1 (some (.own 0 0))) 6 (some (.isl (lnksC f.links) f.links.length))) 7 (some (.base (.int .i64 (f.links.length:Int))))) 8 (some (.base (.int .i64 (x:Int))))) (fun x=>up mt 0 (some (fabC f))) (fun x=>x≤f.links.length∧(f.links.take x).all (lnkB f)=true) 0 (show 0≤f.links.length∧(f.links.take 0).all (lnkB f)=true from ⟨Nat.zero_le _,rfl⟩) ?_
 rintro i hIA ihA
 try (dsimp only at hIA)
 try dsimp only
 obtain ⟨hi,hall⟩:=hIA
 by_cases hc:i < f.links.length
 ·have g1:decide ((i:Int) < (f.links.length:Int))=true:=decide_eq_true (by omega)
  refine Wq<|qW 14 15 rfl<|qK rfl<|Nl<|Wq<|Wt rfl ‹_›<|Wu<|Wq<|Wb<|Wq<|qW 19 23 rfl<|qJ rfl rfl ty38 ty96 (by omega)<|Od rfl rfl (Lg rfl rfl ty96 rfl (lnksC_tk hc))<|qB rfl ty96<|qS rfl ty96 (Sl rfl) rfl<|Nl ?_
  by_cases t0:f.links[i].a < 0
  ·have ht0:decide (f.links[i].a < 0)=true:=decide_eq_true t0
   refine Wq<|qW 27 66 rfl<|qF rfl ty96 rfl<|qL rfl ty3 rfl<|qK rfl<|qM rfl<|qD rfl ‹_› rfl<|qD rfl ‹_› rfl<|qD rfl ‹_› rfl<|qD rfl ‹_› rfl<|qD rfl ‹_› rfl<|qT rfl ‹_› rfl<|qM rfl<|qD rfl rfl rfl<|qD rfl rfl rfl<|qD rfl rfl rfl<|qT rfl rfl rfl<|qM rfl<|qD rfl rfl rfl<|qD rfl rfl rfl<|qD rfl rfl rfl<|qD rfl rfl rfl<|qD rfl rfl rfl<|qT rfl rfl rfl<|qM rfl<|qD rfl rfl rfl<|qD rfl rfl rfl<|qD rfl rfl rfl<|qD rfl rfl rfl<|qD rfl rfl rfl<|qT rfl rfl rfl<|qM rfl<|qD rfl rfl rfl<|qD rfl rfl rfl<|qD rfl rfl rfl<|qT rfl rfl rfl<|qM rfl<|qD rfl rfl rfl<|qD rfl rfl rfl<|qD rfl rfl rfl<|qT rfl rfl rfl<|Nl<|Wt rfl rfl<|Wq<|qW 70 71 rfl<|qA rfl<|Nl<|Wz ⟨.inl rfl,_,mt,Rc (Rt0 rfl) (Rv),aM,?_⟩
   exact ⟨by rw [validB_bad hc (by unfold lnkB;simp;omega)];rfl,rfl⟩
  ·have ht0:decide (f.links[i].a < 0)=false:=decide_eq_false t0
   by_cases t1:f.links[i].a ≥ f.sw
   ·have ht1:decide (f.links[i].a ≥ f.sw)=true:=decide_eq_true t1
    refine Wq<|qW 27 66 rfl<|qF rfl ty96 rfl<|qL rfl ty3 rfl<|qK rfl<|qM rfl<|gF rfl ‹_› ty96 rfl<|gL rfl ‹_› ty3 rfl<|gF rfl ‹_› ty41 rfl<|gL rfl ‹_› ty3 rfl<|gGe rfl ‹_›<|qP rfl ‹_› rfl<|qM rfl<|qD rfl ‹_› rfl<|qD rfl ‹_› rfl<|qD rfl ‹_› rfl<|qT rfl ‹_› rfl<|qM rfl<|qD rfl rfl rfl<|qD rfl rfl rfl<|qD rfl rfl rfl<|qD rfl rfl rfl<|qD rfl rfl rfl<|qT rfl rfl rfl<|qM rfl<|qD rfl rfl rfl<|qD rfl rfl rfl<|qD rfl rfl rfl<|qD rfl rfl rfl<|qD rfl rfl rfl<|qT rfl rfl rfl<|qM rfl<|qD rfl rfl rfl<|qD rfl rfl rfl<|qD rfl rfl rfl<|qT rfl rfl rfl<|qM rfl<|qD rfl rfl rfl<|qD rfl rfl rfl<|qD rfl rfl rfl<|qT rfl rfl rfl<|Nl<|Wt rfl rfl<|Wq<|qW 70 71 rfl<|qA rfl<|Nl<|Wz ⟨.inl rfl,_,mt,Rc (Rt0 rfl) (Rv),aM,?_⟩
    exact ⟨by rw [validB_bad hc (by unfold lnkB;simp;omega)];rfl,rfl⟩
   ·have ht1:decide (f.links[i].a ≥ f.sw)=false:=decide_eq_false t1
    by_cases t2:f.links[i].b < 0
    ·have ht2:decide (f.links[i].b < 0)=true:=decide_eq_true t2
     refine Wq<|qW 27 66 rfl<|qF rfl ty96 rfl<|qL rfl ty3 rfl<|qK rfl<|qM rfl<|gF rfl ‹_› ty96 rfl<|gL rfl ‹_› ty3 rfl<|gF rfl ‹_› ty41 rfl<|gL rfl ‹_› ty3 rfl<|gGe rfl ‹_›<|qP rfl ‹_› rfl<|qM rfl<|gF rfl ‹_› ty96 rfl<|gL rfl ‹_› ty3 rfl<|gK rfl ‹_›<|qP rfl ‹_› rfl<|qM rfl<|qD rfl ‹_› rfl<|qD rfl ‹_› rfl<|qD rfl ‹_› rfl<|qD rfl ‹_› rfl<|qD rfl ‹_› rfl<|qT rfl ‹_› rfl<|qM rfl<|qD rfl rfl rfl<|qD rfl rfl rfl<|qD rfl rfl rfl<|qD rfl rfl rfl<|qD rfl rfl rfl<|qT rfl rfl rfl<|qM rfl<|qD rfl rfl rfl<|qD rfl rfl rfl<|qD rfl rfl rfl<|qT rfl rfl rfl<|qM rfl<|qD rfl rfl rfl<|qD rfl rfl rfl<|qD rfl rfl rfl<|qT rfl rfl rfl<|Nl<|Wt rfl rfl<|Wq<|qW 70 71 rfl<|qA rfl<|Nl<|Wz ⟨.inl rfl,_,mt,Rc (Rt0 rfl) (Rv),aM,?_⟩
     exact ⟨by rw [validB_bad hc (by unfold lnkB;simp;omega)];rfl,rfl⟩
    ·have ht2:decide (f.links[i].b < 0)=false:=decide_eq_false t2
     by_cases t3:f.links[i].b ≥ f.sw
     ·have ht3:decide (f.links[i].b ≥ f.sw)=true:=decide_eq_true t3
      refine Wq<|qW 27 66 rfl<|qF rfl ty96 rfl<|qL rfl ty3 rfl<|qK rfl<|qM rfl<|gF rfl ‹_› ty96 rfl<|gL rfl ‹_› ty3 rfl<|gF rfl ‹_› ty41 rfl<|gL rfl ‹_› ty3 rfl<|gGe rfl ‹_›<|qP rfl ‹_› rfl<|qM rfl<|gF rfl ‹_› ty96 rfl<|gL rfl ‹_› ty3 rfl<|gK rfl ‹_›<|qP rfl ‹_› rfl<|qM rfl<|gF rfl ‹_› ty96 rfl<|gL rfl ‹_› ty3 rfl<|gF rfl ‹_› ty41 rfl<|gL rfl ‹_› ty3 rfl<|gGe rfl ‹_›<|qP rfl ‹_› rfl<|qM rfl<|qD rfl ‹_› rfl<|qD rfl ‹_› rfl<|qD rfl ‹_› rfl<|qD rfl ‹_› rfl<|qD rfl ‹_› rfl<|qT rfl ‹_› rfl<|qM rfl<|qD rfl rfl rfl<|qD rfl rfl rfl<|qD rfl rfl rfl<|qT rfl rfl rfl<|qM rfl<|qD rfl rfl rfl<|qD rfl rfl rfl<|qD rfl rfl rfl<|qT rfl rfl rfl<|Nl<|Wt rfl rfl<|Wq<|qW 70 71 rfl<|qA rfl<|Nl<|Wz ⟨.inl rfl,_,mt,Rc (Rt0 rfl) (Rv),aM,?_⟩
      exact ⟨by rw [validB_bad hc (by unfold lnkB;simp;omega)];rfl,rfl⟩
     ·have ht3:decide (f.links[i].b ≥ f.sw)=false:=decide_eq_false t3
      by_cases t4:f.links[i].a=f.links[i].b
      ·have ht4:(f.links[i].a == f.links[i].b)=true:=by simpa using t4
       refine Wq<|qW 27 66 rfl<|qF rfl ty96 rfl<|qL rfl ty3 rfl<|qK rfl<|qM rfl<|gF rfl ‹_› ty96 rfl<|gL rfl ‹_› ty3 rfl<|gF rfl ‹_› ty41 rfl<|gL rfl ‹_› ty3 rfl<|gGe rfl ‹_›<|qP rfl ‹_› rfl<|qM rfl<|gF rfl ‹_› ty96 rfl<|gL rfl ‹_› ty3 rfl<|gK rfl ‹_›<|qP rfl ‹_› rfl<|qM rfl<|gF rfl ‹_› ty96 rfl<|gL rfl ‹_› ty3 rfl<|gF rfl ‹_› ty41 rfl<|gL rfl ‹_› ty3 rfl<|gGe rfl ‹_›<|qP rfl ‹_› rfl<|qM rfl<|gF rfl ‹_› ty96 rfl<|gL rfl ‹_› ty3 rfl<|gF rfl ‹_› ty96 rfl<|gL rfl ‹_› ty3 rfl<|gE rfl ‹_›<|qP rfl ‹_› rfl<|qM rfl<|qD rfl ‹_› rfl<|qD rfl ‹_› rfl<|qD rfl ‹_› rfl<|qT rfl ‹_› rfl<|qM rfl<|qD rfl rfl rfl<|qD rfl rfl rfl<|qD rfl rfl rfl<|qT rfl rfl rfl<|Nl<|Wt rfl rfl<|Wq<|qW 70 71 rfl<|qA rfl<|Nl<|Wz ⟨.inl rfl,_,mt,Rc (Rt0 rfl) (Rv),aM,?_⟩
       exact ⟨by rw [validB_bad hc (by unfold lnkB;simp;omega)];rfl,rfl⟩
      ·have ht4:(f.links[i].a == f.links[i].b)=false:=by simpa using t4
       by_cases t5:f.links[i].c < 1
       ·have ht5:decide (f.links[i].c < 1)=true:=decide_eq_true t5
        refine Wq<|qW 27 66 rfl<|qF rfl ty96 rfl<|qL rfl ty3 rfl<|qK rfl<|qM rfl<|gF rfl ‹_› ty96 rfl<|gL rfl ‹_› ty3 rfl<|gF rfl ‹_› ty41 rfl<|gL rfl ‹_› ty3 rfl<|gGe rfl ‹_›<|qP rfl ‹_› rfl<|qM rfl<|gF rfl ‹_› ty96 rfl<|gL rfl ‹_› ty3 rfl<|gK rfl ‹_›<|qP rfl ‹_› rfl<|qM rfl<|gF rfl ‹_› ty96 rfl<|gL rfl ‹_› ty3 rfl<|gF rfl ‹_› ty41 rfl<|gL rfl ‹_› ty3 rfl<|gGe rfl ‹_›<|qP rfl ‹_› rfl<|qM rfl<|gF rfl ‹_› ty96 rfl<|gL rfl ‹_› ty3 rfl<|gF rfl ‹_› ty96 rfl<|gL rfl ‹_› ty3 rfl<|gE rfl ‹_›<|qP rfl ‹_› rfl<|qM rfl<|gF rfl ‹_› ty96 rfl<|gL rfl ‹_› ty3 rfl<|gK rfl ‹_›<|qP rfl ‹_› rfl<|qM rfl<|qD rfl ‹_› rfl<|qD rfl ‹_› rfl<|qD rfl ‹_› rfl<|qT rfl ‹_› rfl<|Nl<|Wt rfl rfl<|Wq<|qW 70 71 rfl<|qA rfl<|Nl<|Wz ⟨.inl rfl,_,mt,Rc (Rt0 rfl) (Rv),aM,?_⟩
        exact ⟨by rw [validB_bad hc (by unfold lnkB;simp;omega)];rfl,rfl⟩
       ·have ht5:decide (f.links[i].c < 1)=false:=decide_eq_false t5
        by_cases t6:f.links[i].c > 1048576
        ·have ht6:decide (f.links[i].c > 1048576)=true:=decide_eq_true t6
         refine Wq<|qW 27 66 rfl<|qF rfl ty96 rfl<|qL rfl ty3 rfl<|qK rfl<|qM rfl<|gF rfl ‹_› ty96 rfl<|gL rfl ‹_› ty3 rfl<|gF rfl ‹_› ty41 rfl<|gL rfl ‹_› ty3 rfl<|gGe rfl ‹_›<|qP rfl ‹_› rfl<|qM rfl<|gF rfl ‹_› ty96 rfl<|gL rfl ‹_› ty3 rfl<|gK rfl ‹_›<|qP rfl ‹_› rfl<|qM rfl<|gF rfl ‹_› ty96 rfl<|gL rfl ‹_› ty3 rfl<|gF rfl ‹_› ty41 rfl<|gL rfl ‹_› ty3 rfl<|gGe rfl ‹_›<|qP rfl ‹_› rfl<|qM rfl<|gF rfl ‹_› ty96 rfl<|gL rfl ‹_› ty3 rfl<|gF rfl ‹_› ty96 rfl<|gL rfl ‹_› ty3 rfl<|gE rfl ‹_›<|qP rfl ‹_› rfl<|qM rfl<|gF rfl ‹_› ty96 rfl<|gL rfl ‹_› ty3 rfl<|gK rfl ‹_›<|qP rfl ‹_› rfl<|qM rfl<|gF rfl ‹_› ty96 rfl<|gL rfl ‹_› ty3 rfl<|gGt rfl ‹_›<|qP rfl ‹_› rfl<|Nl<|Wt rfl ‹_›<|Wq<|qW 70 71 rfl<|qA rfl<|Nl<|Wz ⟨.inl rfl,_,mt,Rc (Rt0 rfl) (Rv),aM,?_⟩
         exact ⟨by rw [validB_bad hc (by unfold lnkB;simp;omega)];rfl,rfl⟩
        ·have ht6:decide (f.links[i].c > 1048576)=false:=decide_eq_false t6
         refine Wq<|qW 27 66 rfl<|qF rfl ty96 rfl<|qL rfl ty3 rfl<|qK rfl<|qM rfl<|gF rfl ‹_› ty96 rfl<|gL rfl ‹_› ty3 rfl<|gF rfl ‹_› ty41 rfl<|gL rfl ‹_› ty3 rfl<|gGe rfl ‹_›<|qP rfl ‹_› rfl<|qM rfl<|gF rfl ‹_› ty96 rfl<|gL rfl ‹_› ty3 rfl<|gK rfl ‹_›<|qP rfl ‹_› rfl<|qM rfl<|gF rfl ‹_› ty96 rfl<|gL rfl ‹_› ty3 rfl<|gF rfl ‹_› ty41 rfl<|gL rfl ‹_› ty3 rfl<|gGe rfl ‹_›<|qP rfl ‹_› rfl<|qM rfl<|gF rfl ‹_› ty96 rfl<|gL rfl ‹_› ty3 rfl<|gF rfl ‹_› ty96 rfl<|gL rfl ‹_› ty3 rfl<|gE rfl ‹_›<|qP rfl ‹_› rfl<|qM rfl<|gF rfl ‹_› ty96 rfl<|gL rfl ‹_› ty3 rfl<|gK rfl ‹_›<|qP rfl ‹_› rfl<|qM rfl<|gF rfl ‹_› ty96 rfl<|gL rfl ‹_› ty3 rfl<|gGt rfl ‹_›<|qP rfl ‹_› rfl<|Nl<|Wo rfl ‹_›<|Wu<|qW 75 77 rfl<|qZ rfl (iW _ (by omega))<|qM rfl<|Nl<|WL.rename [(0,0)] 1 (by decide) ?_ ?_ (ihA (i + 1) (show f.links.length - (i + 1) < f.links.length - i from by omega) (show (i + 1)≤f.links.length∧(f.links.take (i + 1)).all (lnkB f)=true from ⟨by omega,by rw [all_take_succ _ hc,hall];unfold lnkB;simp;omega⟩))
         ·exact aU (lR rfl) (aU (lR rfl) (aU (lR rfl) (aU (lI rfl) aM)))
         ·exact aU (kR rfl) aM
 ·have g1:decide ((i:Int) < (f.links.length:Int))=false:=decide_eq_false (by omega)
  refine Wq<|qW 14 15 rfl<|qK rfl<|Nl<|Wq<|Wo rfl ‹_›<|Wx ?_
  obtain rfl:i=f.links.length:=by omega
  by_cases s0:f.sw ≥ 1
  ·have hs0:decide (f.sw ≥ 1)=true:=decide_eq_true s0
   by_cases s1:f.sw≤8
   ·have hs1:decide (f.sw≤8)=true:=decide_eq_true s1
    by_cases s2:(f.links.length:Int)≤24
    ·have hs2:decide ((f.links.length:Int)≤24)=true:=decide_eq_true s2
     by_cases s3:(f.down.length:Int)=f.links.length
     ·have hs3:((f.down.length:Int) == (f.links.length:Int))=true:=by simpa using s3
      by_cases s4:(f.dead.length:Int)=f.sw
      ·have hs4:((f.dead.length:Int) == f.sw)=true:=by simpa using s4
       refine Wq<|qW 81 113 rfl<|qF rfl ty41 rfl<|qL rfl ty3 rfl<|qGe rfl<|qM rfl<|gF rfl ‹_› ty41 rfl<|gL rfl ‹_› ty3 rfl<|gLe rfl ‹_›<|qT rfl ‹_› rfl<|qM rfl<|gF rfl ‹_› ty41 rfl<|gL rfl ‹_› ty38 rfl<|gH rfl ‹_› ty38<|gLe rfl ‹_›<|qT rfl ‹_› rfl<|qM rfl<|gF rfl ‹_› ty41 rfl<|gL rfl ‹_› ty39 rfl<|gH rfl ‹_› ty39<|gF rfl ‹_› ty41 rfl<|gL rfl ‹_› ty38 rfl<|gH rfl ‹_› ty38<|gE rfl ‹_›<|qT rfl ‹_› rfl<|qM rfl<|gF rfl ‹_› ty41 rfl<|gL rfl ‹_› ty39 rfl<|gH rfl ‹_› ty39<|gF rfl ‹_› ty41 rfl<|gL rfl ‹_› ty3 rfl<|gE rfl ‹_›<|qT rfl ‹_› rfl<|qA rfl<|Nl<|Wz ⟨.inl rfl,_,mt,Rc (Rt0 rfl) (Rv),aM,?_⟩
       have hval:sizeB f=true:=by unfold sizeB;simp;omega
       exact ⟨by rw [validB_all hall,hval];first|rfl|(show AV.base (.bool _)=_;rw [hs4]),rfl⟩
      ·have hs4:((f.dead.length:Int) == f.sw)=false:=by simpa using s4
       refine Wq<|qW 81 113 rfl<|qF rfl ty41 rfl<|qL rfl ty3 rfl<|qGe rfl<|qM rfl<|gF rfl ‹_› ty41 rfl<|gL rfl ‹_› ty3 rfl<|gLe rfl ‹_›<|qT rfl ‹_› rfl<|qM rfl<|gF rfl ‹_› ty41 rfl<|gL rfl ‹_› ty38 rfl<|gH rfl ‹_› ty38<|gLe rfl ‹_›<|qT rfl ‹_› rfl<|qM rfl<|gF rfl ‹_› ty41 rfl<|gL rfl ‹_› ty39 rfl<|gH rfl ‹_› ty39<|gF rfl ‹_› ty41 rfl<|gL rfl ‹_› ty38 rfl<|gH rfl ‹_› ty38<|gE rfl ‹_›<|qT rfl ‹_› rfl<|qM rfl<|gF rfl ‹_› ty41 rfl<|gL rfl ‹_› ty39 rfl<|gH rfl ‹_› ty39<|gF rfl ‹_› ty41 rfl<|gL rfl ‹_› ty3 rfl<|gE rfl ‹_›<|qT rfl ‹_› rfl<|qA rfl<|Nl<|Wz ⟨.inl rfl,_,mt,Rc (Rt0 rfl) (Rv),aM,?_⟩
       have hval:sizeB f=false:=by unfold sizeB;simp;omega
       exact ⟨by rw [validB_all hall,hval];first|rfl|(show AV.base (.bool _)=_;rw [hs4]),rfl⟩
     ·have hs3:((f.down.length:Int) == (f.links.length:Int))=false:=by simpa using s3
      refine Wq<|qW 81 113 rfl<|qF rfl ty41 rfl<|qL rfl ty3 rfl<|qGe rfl<|qM rfl<|gF rfl ‹_› ty41 rfl<|gL rfl ‹_› ty3 rfl<|gLe rfl ‹_›<|qT rfl ‹_› rfl<|qM rfl<|gF rfl ‹_› ty41 rfl<|gL rfl ‹_› ty38 rfl<|gH rfl ‹_› ty38<|gLe rfl ‹_›<|qT rfl ‹_› rfl<|qM rfl<|gF rfl ‹_› ty41 rfl<|gL rfl ‹_› ty39 rfl<|gH rfl ‹_› ty39<|gF rfl ‹_› ty41 rfl<|gL rfl ‹_› ty38 rfl<|gH rfl ‹_› ty38<|gE rfl ‹_›<|qT rfl ‹_› rfl<|qM rfl<|qD rfl ‹_› rfl<|qD rfl ‹_› rfl<|qD rfl ‹_› rfl<|qD rfl ‹_› rfl<|qD rfl ‹_› rfl<|qD rfl ‹_› rfl<|qP rfl ‹_› rfl<|qA rfl<|Nl<|Wz ⟨.inl rfl,_,mt,Rc (Rt0 rfl) (Rv),aM,?_⟩
      have hval:sizeB f=false:=by unfold sizeB;simp;omega
      exact ⟨by rw [validB_all hall,hval];first|rfl|(show AV.base (.bool _)=_;rw [hs4]),rfl⟩
    ·have hs2:decide ((f.links.length:Int)≤24)=false:=decide_eq_false s2
     refine Wq<|qW 81 113 rfl<|qF rfl ty41 rfl<|qL rfl ty3 rfl<|qGe rfl<|qM rfl<|gF rfl ‹_› ty41 rfl<|gL rfl ‹_› ty3 rfl<|gLe rfl ‹_›<|qT rfl ‹_› rfl<|qM rfl<|gF rfl ‹_› ty41 rfl<|gL rfl ‹_› ty38 rfl<|gH rfl ‹_› ty38<|gLe rfl ‹_›<|qT rfl ‹_› rfl<|qM rfl<|qD rfl ‹_› rfl<|qD rfl ‹_› rfl<|qD rfl ‹_› rfl<|qD rfl ‹_› rfl<|qD rfl ‹_› rfl<|qD rfl ‹_› rfl<|qD rfl ‹_› rfl<|qP rfl ‹_› rfl<|qM rfl<|qD rfl rfl rfl<|qD rfl rfl rfl<|qD rfl rfl rfl<|qD rfl rfl rfl<|qD rfl rfl rfl<|qD rfl rfl rfl<|qP rfl rfl rfl<|qA rfl<|Nl<|Wz ⟨.inl rfl,_,mt,Rc (Rt0 rfl) (Rv),aM,?_⟩
     have hval:sizeB f=false:=by unfold sizeB;simp;omega
     exact ⟨by rw [validB_all hall,hval];first|rfl|(show AV.base (.bool _)=_;rw [hs4]),rfl⟩
   ·have hs1:decide (f.sw≤8)=false:=decide_eq_false s1
    refine Wq<|qW 81 113 rfl<|qF rfl ty41 rfl<|qL rfl ty3 rfl<|qGe rfl<|qM rfl<|gF rfl ‹_› ty41 rfl<|gL rfl ‹_› ty3 rfl<|gLe rfl ‹_›<|qT rfl ‹_› rfl<|qM rfl<|qD rfl ‹_› rfl<|qD rfl ‹_› rfl<|qD rfl ‹_› rfl<|qD rfl ‹_› rfl<|qP rfl ‹_› rfl<|qM rfl<|qD rfl rfl rfl<|qD rfl rfl rfl<|qD rfl rfl rfl<|qD rfl rfl rfl<|qD rfl rfl rfl<|qD rfl rfl rfl<|qD rfl rfl rfl<|qP rfl rfl rfl<|qM rfl<|qD rfl rfl rfl<|qD rfl rfl rfl<|qD rfl rfl rfl<|qD rfl rfl rfl<|qD rfl rfl rfl<|qD rfl rfl rfl<|qP rfl rfl rfl<|qA rfl<|Nl<|Wz ⟨.inl rfl,_,mt,Rc (Rt0 rfl) (Rv),aM,?_⟩
    have hval:sizeB f=false:=by unfold sizeB;simp;omega
    exact ⟨by rw [validB_all hall,hval];first|rfl|(show AV.base (.bool _)=_;rw [hs4]),rfl⟩
  ·have hs0:decide (f.sw ≥ 1)=false:=decide_eq_false s0
   refine Wq<|qW 81 113 rfl<|qF rfl ty41 rfl<|qL rfl ty3 rfl<|qGe rfl<|qM rfl<|qD rfl ‹_› rfl<|qD rfl ‹_› rfl<|qD rfl ‹_› rfl<|qP rfl ‹_› rfl<|qM rfl<|qD rfl rfl rfl<|qD rfl rfl rfl<|qD rfl rfl rfl<|qD rfl rfl rfl<|qP rfl rfl rfl<|qM rfl<|qD rfl rfl rfl<|qD rfl rfl rfl<|qD rfl rfl rfl<|qD rfl rfl rfl<|qD rfl rfl rfl<|qD rfl rfl rfl<|qD rfl rfl rfl<|qP rfl rfl rfl<|qM rfl<|qD rfl rfl rfl<|qD rfl rfl rfl<|qD rfl rfl rfl<|qD rfl rfl rfl<|qD rfl rfl rfl<|qD rfl rfl rfl<|qP rfl rfl rfl<|qA rfl<|Nl<|Wz ⟨.inl rfl,_,mt,Rc (Rt0 rfl) (Rv),aM,?_⟩
   have hval:sizeB f=false:=by unfold sizeB;simp;omega
   exact ⟨by rw [validB_all hall,hval];first|rfl|(show AV.base (.bool _)=_;rw [hs4]),rfl⟩
def flowF (f:Fab) (a b:Int):Int:=if a=b then 0 else if aliveB f a && aliveB f b then minCut f (wkF f) a.toNat b.toNat (2 ^ f.dead.length) else 0
def LinksOK (f:Fab):Prop:=∀ i l,f.links[i]?=some l→wkF f i=true→LkOK 1048576 l
def capK (f:Fab) (W χ:Nat→Bool) (k:Nat):Int:=((List.range k).map (capI f W χ)).sum
theorem capK_succ (f:Fab) (W χ:Nat→Bool) (k:Nat):capK f W χ (k + 1)=capK f W χ k + capI f W χ k:=by
 unfold capK;rw [List.range_succ,List.map_append,List.sum_append];simp
theorem capI_bd {f:Fab} (hL:LinksOK f) (χ:Nat→Bool) (i:Nat):0≤capI f (wkF f) χ i∧capI f (wkF f) χ i≤1048576:=by
 unfold capI
 cases hl:f.links[i]? with
 | none=>simp
 | some l =>
  dsimp only
  cases hw:wkF f i
  ·simp
  ·have:=hL i l hl hw
   have h1:=this.c1
   have h2:=this.cB
   split<;>omega
theorem capK_bd {f:Fab} (hL:LinksOK f) (χ:Nat→Bool) (k:Nat):0≤capK f (wkF f) χ k∧capK f (wkF f) χ k≤k * 1048576:=by
 induction k with
 | zero=>simp [capK]
 | succ k ih =>
  rw [capK_succ]
  have:=capI_bd hL χ k
  omega
theorem valid_len {f:Fab} (hv:validB f=true):f.links.length≤24:=by
 unfold validB sizeB at hv
 simp only [Bool.and_eq_true,decide_eq_true_eq] at hv
 omega
theorem valid_links {f:Fab} (h8:f.dead.length≤8) (hv:validB f=true):LinksOK f:=by
 intro i l hl hw
 unfold validB at hv
 simp only [Bool.and_eq_true] at hv
 have:=List.all_eq_true.1 hv.1 l (List.mem_of_getElem? hl)
 unfold lnkB at this
 simp only [Bool.and_eq_true,decide_eq_true_eq,Bool.not_eq_true',beq_eq_false_iff_ne] at this
 obtain ⟨h1,h2,h3,h4⟩:=wkF_wf f i l hl hw
 exact ⟨by omega,by omega,by omega,by omega,this.2.2.2.2.1,by omega,by omega⟩
theorem capStep_bd {f:Fab} (hL:LinksOK f) (k:Nat) (hk:k≤24) (j:Nat):0≤cN (capM f (wkF f) k) j∧cN (capM f (wkF f) k) j≤24 * 1048576:=by
 have:=capM_bd (B:=1048576) (by omega) hL k j
 omega
theorem capM_len2 (f:Fab) (W:Nat→Bool) (k:Nat):(capM f W k).length=64:=by
 induction k with
 | zero=>rfl
 | succ k ih =>
  rw [capM_succ]
  unfold capStep
  split
  ·exact ih
  ·split
   ·rw [addAt_len,addAt_len,ih]
   ·exact ih
theorem flow_min {f:Fab} (hL:LinksOK f) {a b:Nat} {s:Int} (ha:a < f.dead.length) (hb:b < f.dead.length) (hab:a≠b) (h:IsFlow f (wkF f) a b s):s=minCut f (wkF f) a b (2 ^ f.dead.length) :=
 h.uniq (minCut_flow (fun i l hl hW=>(hL i l hl hW).c1) (fun i l hl hW=>by obtain ⟨h1,h2,h3,h4⟩:=wkF_wf f i l hl hW;omega) ha hb hab)
theorem flow_any (f:Fab) (hf:FabS f) (hval:validB f=true) (a b:Int):AFn Tryz.prog 21 0 [.agg (fabC f),.base (.int .i64 a),.base (.int .i64 b)] mt (.base (.int .i64 (flowF f a b))) mt:=by
 refine AFn.eq Tryz.func21 rfl rfl (Nat.le_of_ble_eq_true rfl) ?_
 have hal:=alive_any f
 have hwk:=works_any f
 have h24:=valid_len hval
 have hvl:=valid_any f (by omega)
 rw [hval] at hvl
 have hL:=valid_links hf.n8 hval
 obtain ⟨hsw,h8,_⟩:=hf
 refine Wq<|qW 0 2 rfl<|qC rfl<|qA rfl<|Nl ?_
 by_cases hab:a=b
 ·have g1:(a == b)=true:=by simpa using hab
  have hv:flowF f a b=0:=by unfold flowF;rw [if_pos hab]
  refine Wq<|Wq<|qW 6 26 rfl<|qG rfl ty41 rfl (Tl rfl)<|qY rfl (hvl) fok51 rfl<|qO rfl<|qM rfl<|gM rfl rfl<|gM rfl rfl<|gE rfl rfl<|qP rfl rfl rfl<|qM rfl<|qD rfl ‹_› rfl<|qD rfl ‹_› rfl<|qD rfl ‹_› rfl<|qD rfl ‹_› rfl<|qT rfl ‹_› rfl<|qM rfl<|qD rfl rfl rfl<|qD rfl rfl rfl<|qD rfl rfl rfl<|qD rfl rfl rfl<|qT rfl rfl rfl<|Nl<|Wt rfl rfl<|Wq<|qW 30 31 rfl<|qA rfl<|Nl<|Wz ⟨.inl rfl,_,mt,Rc (Rt0 rfl) (Rv),aM,?_⟩
  exact ⟨by rw [hv];rfl,rfl⟩
 ·have g1:(a == b)=false:=by simpa using hab
  cases ha:aliveB f a with
  | false =>
   have g2:(!aliveB f a)=true:=by rw [ha];rfl
   have hv:flowF f a b=0:=by unfold flowF;rw [if_neg hab,ha];rfl
   refine Wq<|Wq<|qW 6 26 rfl<|qG rfl ty41 rfl (Tl rfl)<|qY rfl (hvl) fok51 rfl<|qO rfl<|qM rfl<|gM rfl rfl<|gM rfl rfl<|gE rfl rfl<|qP rfl rfl rfl<|qM rfl<|gG rfl ‹_› ty41 rfl (Tl rfl)<|gM rfl ‹_›<|gY rfl ‹_› (hal _) fok52 rfl<|gO rfl ‹_›<|qP rfl ‹_› rfl<|qM rfl<|qD rfl ‹_› rfl<|qD rfl ‹_› rfl<|qD rfl ‹_› rfl<|qD rfl ‹_› rfl<|qT rfl ‹_› rfl<|Nl<|Wt rfl rfl<|Wq<|qW 30 31 rfl<|qA rfl<|Nl<|Wz ⟨.inl rfl,_,mt,Rc (Rt0 rfl) (Rv),aM,?_⟩
   exact ⟨by rw [hv];rfl,rfl⟩
  | true =>
   have g2:(!aliveB f a)=false:=by rw [ha];rfl
   cases hb:aliveB f b with
   | false =>
    have g3:(!aliveB f b)=true:=by rw [hb];rfl
    have hv:flowF f a b=0:=by unfold flowF;rw [if_neg hab,hb,Bool.and_false];rfl
    refine Wq<|Wq<|qW 6 26 rfl<|qG rfl ty41 rfl (Tl rfl)<|qY rfl (hvl) fok51 rfl<|qO rfl<|qM rfl<|gM rfl rfl<|gM rfl rfl<|gE rfl rfl<|qP rfl rfl rfl<|qM rfl<|gG rfl ‹_› ty41 rfl (Tl rfl)<|gM rfl ‹_›<|gY rfl ‹_› (hal _) fok52 rfl<|gO rfl ‹_›<|qP rfl ‹_› rfl<|qM rfl<|gG rfl ‹_› ty41 rfl (Tl rfl)<|gM rfl ‹_›<|gY rfl ‹_› (hal _) fok52 rfl<|gO rfl ‹_›<|qP rfl ‹_› rfl<|Nl<|Wt rfl ‹_›<|Wq<|qW 30 31 rfl<|qA rfl<|Nl<|Wz ⟨.inl rfl,_,mt,Rc (Rt0 rfl) (Rv),aM,?_⟩
    exact ⟨by rw [hv];rfl,rfl⟩
   | true =>
    have g3:(!aliveB f b)=false:=by rw [hb];rfl
    have hv:flowF f a b=minCut f (wkF f) a.toNat b.toNat (2 ^ f.dead.length):=by unfold flowF;rw [if_neg hab,ha,hb];rfl
    obtain ⟨a0,a1⟩:=aliveB_lt ha
    obtain ⟨b0,b1⟩:=aliveB_lt hb
    refine Wq<|Wq<|qW 6 26 rfl<|qG rfl ty41 rfl (Tl rfl)<|qY rfl (hvl) fok51 rfl<|qO rfl<|qM rfl<|gM rfl rfl<|gM rfl rfl<|gE rfl rfl<|qP rfl rfl rfl<|qM rfl<|gG rfl ‹_› ty41 rfl (Tl rfl)<|gM rfl ‹_›<|gY rfl ‹_› (hal _) fok52 rfl<|gO rfl ‹_›<|qP rfl ‹_› rfl<|qM rfl<|gG rfl ‹_› ty41 rfl (Tl rfl)<|gM rfl ‹_›<|gY rfl ‹_› (hal _) fok52 rfl<|gO rfl ‹_›<|qP rfl ‹_› rfl<|Nl<|Wo rfl ‹_›<|Wu ?_
    obtain ⟨an,rfl⟩:=Int.eq_ofNat_of_zero_le a0
    obtain ⟨bn,rfl⟩:=Int.eq_ofNat_of_zero_le b0
    rw [Int.toNat_natCast,Int.toNat_natCast] at hv
    refine Wq<|qW 35 36 rfl<|qB rfl ty125<|Nl<|Wq<|Wq<|qW 40 44 rfl<|qF rfl ty41 rfl<|qL rfl ty38 rfl<|qH rfl ty38<|qM rfl<|Nl<|Wb<|W.rename [(0,0),(1,35)] 2 (T':=up (up (up (up (up (up (up mt 1 (some (.base (.int .i64 (an:Int))))) 2 (some (.base (.int .i64 (bn:Int))))) 3 (some (.own 0 0))) 7 (some (.own 1 0))) 33 (some (.isl (lnksC f.links) f.links.length))) 34 (some (.base (.int .i64 (f.links.length:Int))))) 35 (some (.base (.int .i64 (0:Int))))) (H':=up (up mt 0 (some (fabC f))) 1 (some (intsC (List.replicate 64 0)))) (by decide) ?_ ?_ ?_
    ·exact aU (lR rfl) (aU (lR rfl) (aU (lR rfl) (aU (lI rfl) (aU (lI rfl) (aU (lR rfl) (aU (lR rfl) aM))))))
    ·exact aU (kR rfl) (aU (kR rfl) aM)
    refine W.loop_ind (α:=Nat × List Int) (fun x=>f.links.length - x.1) 2 (fun x=>up (up (up (up (up (up (up mt 1 (some (.base (.int .i64 (an:Int))))) 2 (some (.base (.int .i64 (bn:Int))))) 3 (some (.own 0 0))) 7 (some (.own 1 0))) 33 (some (.isl (lnksC f.links) f.links.length))) 34 (some (.base (.int .i64 (f.links.length:Int))))) 35 (some (.base (.int .i64 (x.1:Int))))) (fun x=>up (up mt 0 (some (fabC f))) 1 (some (intsC x.2))) (fun x=>x.1≤f.links.length∧x.2=capM f (wkF f) x.1) (0,(List.replicate 64 0)) (show 0≤f.links.length∧(List.replicate 64 0)=capM f (wkF f) 0 from ⟨Nat.zero_le _,rfl⟩) ?_
    rintro ⟨i,nn⟩ hIA ihA
    try (dsimp only at hIA)
    try dsimp only
    obtain ⟨hi,hn⟩:=hIA
    have hnl:nn.length=64:=by rw [hn];exact capM_len2 _ _ _
    by_cases hc2:i < f.links.length
    ·have g7:decide ((i:Int) < (f.links.length:Int))=true:=decide_eq_true (by omega)
     have hl:f.links[i]?=some f.links[i]:=by simp [hc2]
     have hnn:=capM_succ f (wkF f) i
     rw [← hn] at hnn
     unfold capStep at hnn
     rw [hl] at hnn
     dsimp only at hnn
     refine Wq<|qW 48 49 rfl<|qK rfl<|Nl<|Wq<|Wt rfl ‹_›<|Wu<|Wq<|Wb<|Wq<|qW 53 59 rfl<|qM rfl<|qJ rfl rfl ty38 ty96 (by omega)<|Od rfl rfl (Lg rfl rfl ty96 rfl (lnksC_tk hc2))<|qB rfl ty96<|qA rfl<|qS rfl ty96 (Sl rfl) rfl<|Nl ?_
     cases hwi:worksB f i with
     | false =>
      rw [show wkF f i=false from hwi] at hnn
      refine Wq<|qW 63 66 rfl<|qG rfl ty41 rfl (Tl rfl)<|qM rfl<|qY rfl (hwk _) fok33 rfl<|Nl<|Wo rfl ‹_›<|Wu<|qW 104 106 rfl<|qZ rfl (iW _ (by omega))<|qM rfl<|Nl<|WL.rename [(0,0),(1,1)] 2 (by decide) ?_ ?_ (ihA ((i + 1),nn) (show f.links.length - (i + 1) < f.links.length - i from by omega) (show (i + 1)≤f.links.length∧nn=capM f (wkF f) (i + 1) from ⟨by omega,by rw [hnn];simp⟩))
      ·exact aU (lR rfl) (aU (lR rfl) (aU (lR rfl) (aU (lI rfl) (aU (lI rfl) (aU (lR rfl) (aU (lR rfl) aM))))))
      ·exact aU (kP rfl (intsC_pure _)) (aU (kR rfl) aM)
     | true =>
      rw [show wkF f i=true from hwi,if_pos rfl] at hnn
      obtain ⟨x1,x2,x3,x4⟩:=wkF_wf f i _ hl hwi
      have hlk:=hL i _ hl hwi
      have hc1:=hlk.c1
      have hcB:=hlk.cB
      have hab2:=hlk.ne
      have hb1:=capStep_bd hL i (by omega) (f.links[i].a.toNat * 8 + f.links[i].b.toNat)
      have hb2:=capStep_bd hL i (by omega) (f.links[i].b.toNat * 8 + f.links[i].a.toNat)
      rw [← hn] at hb1 hb2
      refine Wq<|qW 63 66 rfl<|qG rfl ty41 rfl (Tl rfl)<|qM rfl<|qY rfl (hwk _) fok33 rfl<|Nl<|Wt rfl ‹_›<|Wq<|Wd 70 83 (by decide) rfl mixed rfl<|qF rfl ty96 rfl<|qL rfl ty3 rfl<|qF rfl ty96 rfl<|qL rfl ty3 rfl<|Od rfl rfl (Ir rfl rfl rfl (Int.toNat_of_nonneg x1).symm ty125 ty123 (by omega))<|Od rfl rfl (Ir rfl rfl rfl (Int.toNat_of_nonneg x3).symm ty123 ty3 (by omega))<|Od rfl rfl (Ld rfl rfl rfl (cc_at hnl (by omega) (by omega)) ty3 rfl)<|qF rfl ty96 rfl<|qL rfl ty3 rfl<|qZ rfl (iW _ (by omega))<|Od rfl rfl (Ir rfl rfl rfl (Int.toNat_of_nonneg x1).symm ty125 ty123 (by omega))<|Od rfl rfl (Ir rfl rfl rfl (Int.toNat_of_nonneg x3).symm ty123 ty3 (by omega))<|qS rfl ty3 (cs_at hnl (by omega) (by omega)) rfl<|Nl ⟨by kernel_rfl,?_⟩
      obtain ⟨n2,hn2⟩:∃ n2,nn.set (f.links[i].a.toNat * 8 + f.links[i].b.toNat) (cN nn (f.links[i].a.toNat * 8 + f.links[i].b.toNat) + f.links[i].c)=n2:=⟨_,rfl⟩
      rw [hn2]
      have hn2a:n2=addAt nn (f.links[i].a.toNat * 8 + f.links[i].b.toNat) f.links[i].c:=hn2.symm
      have hn2l:n2.length=64:=by rw [hn2a,addAt_len];exact hnl
      have h5:cN n2 (f.links[i].b.toNat * 8 + f.links[i].a.toNat)=cN nn (f.links[i].b.toNat * 8 + f.links[i].a.toNat):=by rw [hn2a,cN_add (by omega),if_neg (by omega),Int.add_zero]
      refine Wd 87 100 (by decide) rfl mixed rfl<|qF rfl ty96 rfl<|qL rfl ty3 rfl<|qF rfl ty96 rfl<|qL rfl ty3 rfl<|Od rfl rfl (Ir rfl rfl rfl (Int.toNat_of_nonneg x3).symm ty125 ty123 (by omega))<|Od rfl rfl (Ir rfl rfl rfl (Int.toNat_of_nonneg x1).symm ty123 ty3 (by omega))<|Od rfl rfl (Ld rfl rfl rfl (cc_at hn2l (by omega) (by omega)) ty3 rfl)<|qF rfl ty96 rfl<|qL rfl ty3 rfl<|qZ rfl (iW _ (by omega))<|Od rfl rfl (Ir rfl rfl rfl (Int.toNat_of_nonneg x3).symm ty125 ty123 (by omega))<|Od rfl rfl (Ir rfl rfl rfl (Int.toNat_of_nonneg x1).symm ty123 ty3 (by omega))<|qS rfl ty3 (cs_at hn2l (by omega) (by omega)) rfl<|Nl ⟨by kernel_rfl,(qW 104 106 rfl<|qZ rfl (iW _ (by omega))<|qM rfl<|Nl ?_)⟩
      rw [show n2.set (f.links[i].b.toNat * 8 + f.links[i].a.toNat) (cN n2 (f.links[i].b.toNat * 8 + f.links[i].a.toNat) + f.links[i].c)=addAt n2 (f.links[i].b.toNat * 8 + f.links[i].a.toNat) f.links[i].c from rfl,hn2a,← hnn]
      refine WL.rename [(0,0),(1,1)] 2 (by decide) ?_ ?_ (ihA ((i + 1),(capM f (wkF f) (i + 1))) (show f.links.length - (i + 1) < f.links.length - i from by omega) (show (i + 1)≤f.links.length∧(capM f (wkF f) (i + 1))=capM f (wkF f) (i + 1) from ⟨by omega,rfl⟩))
      ·exact aU (lR rfl) (aU (lR rfl) (aU (lR rfl) (aU (lI rfl) (aU (lI rfl) (aU (lR rfl) (aU (lR rfl) aM))))))
      ·exact aU (kP rfl (intsC_pure _)) (aU (kR rfl) aM)
    ·have g7:decide ((i:Int) < (f.links.length:Int))=false:=decide_eq_false (by omega)
     refine Wq<|qW 48 49 rfl<|qK rfl<|Nl<|Wq<|Wo rfl ‹_›<|Wx ?_
     obtain rfl:i=f.links.length:=by omega
     clear ihA hc2 g7 hi
     have hS:=Sent.start (B:=1048576) (B':=100000000) (by omega) hL (by omega) an bn
     rw [← hn] at hS
     have hcap:=capK_bd hL (fun x=>decide (x=an)) f.links.length
     rw [show capK f (wkF f) (fun x=>decide (x=an)) f.links.length=capC f (wkF f) (fun x=>decide (x=an)) from rfl] at hcap
     have hnab:bn≠an:=fun e=>hab (by rw [e])
     refine Wq<|qW 110 111 rfl<|qA rfl<|Nl<|Wb<|W.rename [(0,0),(1,1)] 2 (T':=up (up (up (up mt 1 (some (.base (.int .i64 (an:Int))))) 2 (some (.base (.int .i64 (bn:Int))))) 7 (some (.own 1 0))) 10 (some (.base (.int .i64 0)))) (H':=up (up mt 0 (some (fabC f))) 1 (some (intsC nn))) (by decide) ?_ ?_ ?_
     ·exact aU (lR rfl) (aU (lI rfl) (aU (lR rfl) (aU (lR rfl) aM)))
     ·exact aU (kP rfl (intsC_pure _)) (aU (kR rfl) aM)
     refine W.loop_ind (α:=Int × List Int) (fun x=>(capC f (wkF f) (fun y=>decide (y=an)) - x.1).toNat) 2 (fun x=>up (up (up (up mt 1 (some (.base (.int .i64 (an:Int))))) 2 (some (.base (.int .i64 (bn:Int))))) 7 (some (.own 1 0))) 10 (some (.base (.int .i64 x.1)))) (fun x=>up (up mt 0 (some (fabC f))) 1 (some (intsC x.2))) (fun x=>Sent f (wkF f) 100000000 an bn x.1 x.2∧0≤x.1) (0,nn) (show Sent f (wkF f) 100000000 an bn 0 nn∧0≤0 from ⟨hS,Int.le_refl _⟩) ?_
     rintro ⟨s,nn⟩ hIB ihB
     try (dsimp only at hIB)
     try dsimp only
     obtain ⟨hS,hs0⟩:=hIB
     have hcut:=hS.cut (fun y=>decide (y=an)) (by simp) (by simpa using hnab)
     have hcn:=cutS_nonneg hS.toLeft (fun y=>decide (y=an))
     obtain ⟨v,H',hcall,c,n2,hOK,rfl,rfl⟩:=augment_any nn an bn 100000000 hS.toLeft (by omega) (by omega) (by omega) (fun e=>hnab e.symm)
     refine Wb<|Wq<|qW 115 119 rfl<|qM rfl<|qM rfl ?_
     have hne:intsC nn≠[]:=fun e=>by have:=congrArg List.length e;rw [intsC_len,hS.len] at this;cases this
     refine Od rfl rfl (C1 (fr:=[]) rfl rfl (hcall) fok53 (.own rfl rfl (.cons rfl (.pure rfl) (.cons rfl (.pure rfl) .nil))) rfl (intsC_pure _) (intsC_pure _) hne (by decide) rfl)<|qA rfl<|Nl ?_
     rcases hOK with ⟨rfl,rfl,fr,dn,u,hA,hfb⟩|⟨hc0,fr,p,hp,hnd,hpp,hle,rfl⟩
     ·have hfl:=hS.stop hA (by omega) hfb
      rw [← flow_min hL (by omega) (by omega) (fun e=>hnab e.symm) hfl] at hv
      have g8:((0:Int) == 0)=true:=rfl
      refine Wq<|Wq<|qW 123 125 rfl<|qM rfl<|qE rfl<|Nl<|Wt rfl rfl<|Wq<|qW 129 131 rfl<|qM rfl<|qA rfl<|Nl<|Wz ⟨.inl rfl,_,mt,Rc (Rt0 rfl) (Rv),aM,?_⟩
      exact ⟨by rw [hv];rfl,rfl⟩
     ·have hS2:=hS.more (by omega) hp hnd hpp (by omega) hle
      have hcut2:=hS2.cut (fun y=>decide (y=an)) (by simp) (by simpa using hnab)
      have hcn2:=cutS_nonneg hS2.toLeft (fun y=>decide (y=an))
      have g8:(c == 0)=false:=by simp;omega
      refine Wq<|Wq<|qW 123 125 rfl<|qM rfl<|qE rfl<|Nl<|Wo rfl ‹_›<|Wu<|qW 135 139 rfl<|qM rfl<|qM rfl<|qZ rfl (iW _ (by omega))<|qA rfl<|Nl<|WL.rename [(0,0),(1,1)] 2 (by decide) ?_ ?_ (ihB ((s + c),(sendP fr c nn p)) (show (capC f (wkF f) (fun y=>decide (y=an)) - (s + c)).toNat < (capC f (wkF f) (fun y=>decide (y=an)) - s).toNat from by omega) (show Sent f (wkF f) 100000000 an bn (s + c) (sendP fr c nn p)∧0≤(s + c) from ⟨hS2,by omega⟩))
      ·exact aU (lR rfl) (aU (lI rfl) (aU (lR rfl) (aU (lR rfl) aM)))
      ·exact aU (kP rfl (intsC_pure _)) (aU (kR rfl) aM)
end Go.Proofs.YtdflnmfjpoodlaaGreatDoor
namespace Go.Proofs.YtdflnmfjpoodlaaGreatDoor
open Go.RowKit
inductive Walk (f:Fab) (W:Nat→Bool):Nat→Int→Int→Prop
 | nil (x:Int):Walk f W 0 x x
 | cons {k:Nat} {x y z:Int} (he:Edge f W x y) (h:Walk f W k y z):Walk f W (k + 1) x z
section
variable {f g:Fab} {W V:Nat→Bool} {k j:Nat} {x y z:Int}
theorem Walk.snoc (h:Walk f W k x y) (he:Edge f W y z):Walk f W (k + 1) x z:=by
 induction h with
 | nil=>exact .cons he (.nil _)
 | cons he' _ ih=>exact .cons he' (ih he)
theorem Walk.symm (h:Walk f W k x y):Walk f W k y x:=by
 induction h with
 | nil=>exact .nil _
 | cons he _ ih=>exact ih.snoc he.symm
end
section
variable {f g:Fab} {x y t:Int} {k:Nat}
theorem edge_alive (h:Edge f (wkF f) x y):aliveB f x=true∧aliveB f y=true:=by
 obtain ⟨i,l,hl,hW,⟨rfl,rfl⟩|⟨rfl,rfl⟩⟩:=h
 ·exact worksB_ends hW hl
 ·exact (worksB_ends hW hl).symm
theorem dist_ok (h:aliveB f t=true):IsDist f (wkF f) f.dead.length t (dist f t):=distW_ok (wkF_wf f) h
theorem dist_none (h:aliveB f t=false) (x:Int):gI (dist f t) x=-1:=by
 unfold dist;rw [distW_dead h,gI_rep]
theorem dist_ge (f:Fab) (t x:Int):-1≤gI (dist f t) x:=by
 cases h:aliveB f t with
 | true=>exact (dist_ok h).ge x
 | false=>rw [dist_none h];omega
theorem dist_alive (h:0≤gI (dist f t) x):aliveB f t=true:=by
 cases e:aliveB f t with
 | true=>rfl
 | false=>rw [dist_none e] at h;omega
theorem dist_walk:∀ (k:Nat) (x:Int),gI (dist f t) x=k→Walk f (wkF f) k x t:=by
 intro k
 induction k with
 | zero =>
  intro x h
  have ha:=dist_alive (f:=f) (t:=t) (x:=x) (by omega)
  rw [(dist_ok ha).zero x (by simpa using h)]
  exact .nil _
 | succ k ih =>
  intro x h
  have ha:=dist_alive (f:=f) (t:=t) (x:=x) (by omega)
  obtain ⟨y,hy,h1⟩:=(dist_ok ha).pred x (by omega)
  exact .cons hy (ih y (by rw [h1,h];omega))
theorem walk_dist (ha:aliveB f t=true) (h:Walk f (wkF f) k x t):0≤gI (dist f t) x∧gI (dist f t) x≤k:=by
 induction h with
 | nil=>rw [(dist_ok ha).src];simp
 | cons he _ ih =>
  have h1:=ih ha
  have h2:=(dist_ok ha).step _ _ he.symm h1.1
  omega
theorem walk_alive (ha:aliveB f t=true) (h:Walk f (wkF f) k x t):aliveB f x=true:=by
 cases h with
 | nil=>exact ha
 | cons he _=>exact (edge_alive he).1
theorem dist_swap (h:0≤gI (dist f t) x):0≤gI (dist f x) t∧gI (dist f x) t≤gI (dist f t) x:=by
 obtain ⟨k,hk⟩:=Int.eq_ofNat_of_zero_le h
 have hw:=dist_walk k x hk
 have:=walk_dist (walk_alive (dist_alive h) hw) hw.symm
 omega
theorem dist_symm (f:Fab) (t x:Int):gI (dist f t) x=gI (dist f x) t:=by
 have h1:=dist_ge f t x
 have h2:=dist_ge f x t
 rcases Int.lt_or_le (gI (dist f t) x) 0 with h3|h3
 ·rcases Int.lt_or_le (gI (dist f x) t) 0 with h4|h4
  ·omega
  ·have:=dist_swap h4;omega
 ·have h5:=dist_swap h3
  have h6:=dist_swap h5.1
  omega
theorem dist_self (ha:aliveB f t=true):gI (dist f t) t=0:=(dist_ok ha).src
theorem dist_alive2 (h:0≤gI (dist f t) x):aliveB f x=true:=dist_alive (x:=t) (by rw [← dist_symm];exact h)
end
theorem alive_nat {f:Fab} {s:Nat} (h:aliveB f s=true):s < f.dead.length:=by have:=(aliveB_lt h).2;omega
theorem flow_is {f:Fab} (hL:LinksOK f) {a b:Nat} (hab:a≠b) (ha:aliveB f a=true) (hb:aliveB f b=true):IsFlow f (wkF f) a b (flowF f a b):=by
 have e:flowF f a b=minCut f (wkF f) a b (2 ^ f.dead.length):=by
  unfold flowF
  rw [if_neg (by omega),ha,hb];rfl
 rw [e]
 exact minCut_flow (fun i l hl hW=>(hL i l hl hW).c1) (fun i l hl hW=>by obtain ⟨h1,h2,h3,h4⟩:=wkF_wf f i l hl hW;omega) (alive_nat ha) (alive_nat hb) hab
theorem flow_zero {f:Fab} {a b:Int} (h:a=b∨aliveB f a=false∨aliveB f b=false):flowF f a b=0:=by
 unfold flowF
 rcases h with h|h|h
 ·rw [if_pos h]
 ·rw [h];simp
 ·rw [h];simp
theorem flow_cases (f:Fab) (a b:Int):(flowF f a b=0∧(a=b∨aliveB f a=false∨aliveB f b=false))∨∃ x y:Nat,a=x∧b=y∧x≠y∧aliveB f x=true∧aliveB f y=true:=by
 by_cases h:a=b
 ·exact .inl ⟨flow_zero (.inl h),.inl h⟩
 ·cases ha:aliveB f a with
  | false=>exact .inl ⟨flow_zero (.inr (.inl ha)),.inr (.inl rfl)⟩
  | true =>
   cases hb:aliveB f b with
   | false=>exact .inl ⟨flow_zero (.inr (.inr hb)),.inr (.inr rfl)⟩
   | true =>
    obtain ⟨a0,a1⟩:=aliveB_lt ha
    obtain ⟨b0,b1⟩:=aliveB_lt hb
    obtain ⟨x,rfl⟩:=Int.eq_ofNat_of_zero_le a0
    obtain ⟨y,rfl⟩:=Int.eq_ofNat_of_zero_le b0
    exact .inr ⟨x,y,rfl,rfl,by omega,ha,hb⟩
theorem flow_join {f:Fab} (hL:LinksOK f) (hc:∀ i l,f.links[i]?=some l→wkF f i=true→1≤l.c) {a b:Nat} (hab:a≠b) (_ha:a < f.dead.length) (_hb:b < f.dead.length):0 < flowF f a b↔0≤gI (dist f a) b:=by
 rcases flow_cases f a b with ⟨h1,h2⟩|⟨x,y,hx,hy,h1,h2,h3⟩
 ·rw [h1]
  refine ⟨fun h=>by omega,fun h=>?_⟩
  rcases h2 with h2|h2|h2
  ·omega
  ·rw [dist_alive h] at h2;cases h2
  ·rw [dist_alive2 h] at h2;cases h2
 ·obtain rfl:a=x:=by omega
  obtain rfl:b=y:=by omega
  have hfl:=flow_is hL h1 h2 h3
  constructor
  ·intro hp
   rcases Int.lt_or_le (gI (dist f a) b) 0 with hn|hn
   ·exfalso
    have hle:=hfl.le (fun x=>decide (0≤gI (dist f a) (x:Nat))) (by simp [dist_self h2]) (by simp;omega)
    have:capC f (wkF f) (fun x=>decide (0≤gI (dist f a) (x:Nat)))=0:=by
     refine sum_zero _ _ fun i _=>?_
     unfold capI
     cases e:f.links[i]? with
     | none=>rfl
     | some l =>
      dsimp only
      cases hw:wkF f i with
      | false=>simp
      | true =>
       obtain ⟨x1,x2,x3,x4⟩:=wkF_wf f i l e hw
       have he:Edge f (wkF f) l.a l.b:=⟨i,l,e,hw,.inl ⟨rfl,rfl⟩⟩
       have k1:0≤gI (dist f a) l.a↔0≤gI (dist f a) l.b:=⟨fun h=>((dist_ok h2).step _ _ he h).1,fun h=>((dist_ok h2).step _ _ he.symm h).1⟩
       have e1:decide (0≤gI (dist f a) (l.a.toNat:Nat))=decide (0≤gI (dist f a) (l.b.toNat:Nat)):=by
        rw [Int.toNat_of_nonneg x1,Int.toNat_of_nonneg x3];exact decide_eq_decide.2 k1
       simp only [e1,bne_self_eq_false,Bool.and_false,Bool.false_eq_true,if_false]
    omega
   ·exact hn
  ·intro hn
   obtain ⟨χ,c1,c2,c3⟩:=hfl.eq
   rw [c3]
   obtain ⟨k,hk⟩:=Int.eq_ofNat_of_zero_le hn
   have hw:=(dist_walk k b hk).symm
   -- the walk crosses
   have key:∀ (k:Nat) (u v:Int),Walk f (wkF f) k u v→χ u.toNat=true→χ v.toNat=false→∃ i l,f.links[i]?=some l∧wkF f i=true∧(χ l.a.toNat != χ l.b.toNat)=true:=by
    intro k u v h
    induction h with
    | nil=>intro h1 h2;rw [h1] at h2;cases h2
    | @cons k u m v he _ ih =>
     intro h1 h2
     cases hm:χ m.toNat with
     | true=>exact ih hm h2
     | false =>
      obtain ⟨i,l,hl,hW,⟨rfl,rfl⟩|⟨rfl,rfl⟩⟩:=he
      ·exact ⟨i,l,hl,hW,by rw [h1,hm];rfl⟩
      ·exact ⟨i,l,hl,hW,by rw [h1,hm];rfl⟩
   obtain ⟨i,l,hl,hW,hx⟩:=key k a b hw (by simpa using c1) (by simpa using c2)
   have hi:i < f.links.length:=(List.getElem?_eq_some_iff.1 hl).1
   have hci:capI f (wkF f) χ i=l.c:=by unfold capI;rw [hl];simp only [hW,hx,Bool.and_self,if_true]
   have h1c:=hc i l hl hW
   have hmem:capI f (wkF f) χ i≤capC f (wkF f) χ:=by
    have h0:∀ n,i < n→capI f (wkF f) χ i≤capK f (wkF f) χ n:=by
     intro n
     induction n with
     | zero=>intro h;omega
     | succ n ih =>
      intro h
      rw [capK_succ]
      have h1:=(capI_bd hL χ n).1
      have h2:=(capK_bd hL χ n).1
      by_cases e:i=n
      ·subst e;omega
      ·have:=ih (by omega);omega
    exact h0 _ hi
   omega
end Go.Proofs.YtdflnmfjpoodlaaGreatDoor
namespace Go.Proofs.YtdflnmfjpoodlaaGreatDoor
open Go.RowKit
end Go.Proofs.YtdflnmfjpoodlaaGreatDoor
namespace Go.Proofs.YtdflnmfjpoodlaaGreatDoor
open Go.RowKit
theorem FabOK.fs {f:Fab} (h:FabOK f):FabS f:=⟨h.dead.symm,by have:=h.dead;have:=h.sw7;omega,by have:=h.nlinks;omega⟩
theorem FabOK.val {f:Fab} (h:FabOK f):validB f=true:=by
 unfold validB
 rw [Bool.and_eq_true]
 refine ⟨List.all_eq_true.2 fun x hx=>?_,?_⟩
 ·obtain ⟨h1,h2,h3,h4,h5,h6,h7⟩:=h.links x hx
  unfold lnkB
  simp only [Bool.and_eq_true,decide_eq_true_eq,Bool.not_eq_true',beq_eq_false_iff_ne]
  exact ⟨h1,h2,h3,h4,h5,h6,by omega⟩
 ·have h1:=h.sw1
  have h2:=h.sw7
  have h3:=h.nlinks
  unfold sizeB
  simp only [Bool.and_eq_true,decide_eq_true_eq]
  exact ⟨h1,by omega,by omega,h.down,h.dead⟩
theorem FabOK.lk {f:Fab} (h:FabOK f):LinksOK f:=valid_links h.fs.n8 h.val
theorem FabOK.c1 {f:Fab} (h:FabOK f):∀ i l,f.links[i]?=some l→wkF f i=true→1≤l.c:=fun i l hl _=>by
 obtain ⟨_,_,_,_,_,h6,_⟩:=h.links l (List.mem_of_getElem? hl)
 exact h6
end Go.Proofs.YtdflnmfjpoodlaaGreatDoor
namespace Go.Proofs.YtdflnmfjpoodlaaGreatDoor
open Go.RowKit
theorem dist_lt (f:Fab) (t x:Int) (h:1≤f.dead.length):gI (dist f t) x < f.dead.length:=by
 cases ha:aliveB f t with
 | true=>exact (dist_ok ha).toDBase.lt x
 | false=>rw [dist_none ha];omega
end Go.Proofs.YtdflnmfjpoodlaaGreatDoor
