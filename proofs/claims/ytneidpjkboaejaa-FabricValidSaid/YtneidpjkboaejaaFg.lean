/-
  The fabric that is made from a list of numbers: a valid one, whatever the numbers are.
-/
import Derived.Test.YtneidpjkboaejaaFb
import Derived.Test.YtneidpjkboaejaaMab
namespace Go.Proofs.Ytneidpjkboaejaa
open Go.RowKit
theorem nextV_bd (l:List Int) (at_:Nat) (n:Int) (hn:1≤n):0≤nextV l at_ n∧nextV l at_ n < n:=by
 unfold nextV
 split
 ·exact ⟨Int.emod_nonneg _ (by omega),Int.emod_lt_of_pos _ (by omega)⟩
 ·omega
def LnkOK (sw:Int) (x:Lnk):Prop:=0≤x.a∧x.a < sw∧0≤x.b∧x.b < sw∧x.a≠x.b∧1≤x.c∧x.c≤10
theorem lnkOK {sw a b c:Int} (h1:0≤a) (h2:a < sw) (h3:0≤b) (h4:b < sw) (h5:a≠b) (h6:1≤c) (h7:c≤10):LnkOK sw ⟨a,b,c⟩:=⟨h1,h2,h3,h4,h5,h6,h7⟩
structure FabOK (f:Fab):Prop where
 sw1:1≤f.sw
 sw7:f.sw≤7
 links:∀ x∈f.links,LnkOK f.sw x
 nlinks:f.links.length≤17
 down:f.down.length=f.links.length
 dead:(f.dead.length:Int)=f.sw
theorem lnksC_pure (l:List Lnk):(lnksC l).all AV.pure1=true:=by
 induction l with
 | nil=>rfl
 | cons x l ih=>rw [show lnksC (x::l)=lnkC x++lnksC l from rfl,List.all_append,ih];rfl
theorem boolsC_pure (l:List Bool):(boolsC l).all AV.pure1=true:=by
 induction l with
 | nil=>rfl
 | cons x l ih=>rw [show boolsC (x::l)=[.base (.bool x)]++boolsC l from rfl,List.all_append,ih];rfl
def LksAt (sw:Int) (n:Nat) (cs:List AV):Prop:=∃ ls:List Lnk,n=ls.length∧cs=lnksC ls∧∀ x∈ls,LnkOK sw x
theorem LksAt.len {sw:Int} {n:Nat} {cs:List AV} (h:LksAt sw n cs):cs.length=n * 3:=by obtain ⟨ls,rfl,rfl,_⟩:=h;exact lnksC_len ls
theorem LksAt.pure {sw:Int} {n:Nat} {cs:List AV} (h:LksAt sw n cs):cs.all AV.pure1=true:=by obtain ⟨ls,rfl,rfl,_⟩:=h;exact lnksC_pure ls
theorem LksAt.snoc {sw:Int} {n:Nat} {cs:List AV} {a b c:Int} (h:LksAt sw n cs) (hx:LnkOK sw ⟨a,b,c⟩):LksAt sw (n + 1) (cs++[.base (.int .i64 a),.base (.int .i64 b),.base (.int .i64 c)]):=by
 obtain ⟨ls,rfl,rfl,hl⟩:=h
 refine ⟨ls++[⟨a,b,c⟩],by simp,by simp [lnksC,lnkC],fun x hx'=>?_⟩
 rcases List.mem_append.1 hx' with h|h
 ·exact hl x h
 ·simp at h;subst h;exact hx
def BlsAt (n:Nat) (cs:List AV):Prop:=∃ bs:List Bool,n=bs.length∧cs=boolsC bs
theorem BlsAt.len {n:Nat} {cs:List AV} (h:BlsAt n cs):cs.length=n * 1:=by obtain ⟨ls,rfl,rfl⟩:=h;simp [boolsC]
theorem BlsAt.pure {n:Nat} {cs:List AV} (h:BlsAt n cs):cs.all AV.pure1=true:=by obtain ⟨ls,rfl,rfl⟩:=h;exact boolsC_pure ls
theorem BlsAt.snoc {n:Nat} {cs:List AV} (b:Bool) (h:BlsAt n cs):BlsAt (n + 1) (cs++[.base (.bool b)]):=by
 obtain ⟨ls,rfl,rfl⟩:=h
 exact ⟨ls++[b],by simp,by simp [boolsC]⟩
theorem tk_all {cs:List AV} {n sz:Nat} (h:cs.length=n * sz):Tk cs 0 (n * sz) cs:=by rw [← h];exact Tk.all cs
set_option maxRecDepth 100000 in
theorem fabric_any (l:List Int) (at_ n:Nat) (hn:1≤n) (hn4:n≤4) (hl:l.length≤9223372036854775807) :
 ∃ v H',AFn Try.prog 6 1 [.own 0 0,.base (.int .i64 (n:Int))] (up mt 0 (some (deckC l at_))) v H'∧∃ (f:Fab) (at':Nat),(FabOK f∧(n:Int)≤f.sw)∧v=.agg (fabC f)∧H'=up mt 0 (some (deckC l at')):=by
 refine AFn.ex Try.func6 rfl rfl (Nat.le_of_ble_eq_true rfl) ?_
 have hv:=nextV_bd l at_ 4 (by decide)
 refine Wq<|qW 1 2 rfl<|qB rfl ty25<|Nl<|Wq<|qW 6 13 rfl<|qM rfl<|qM rfl<|Od rfl rfl (C1 (fr:=[]) rfl rfl (next_any l at_ 4 (by decide) (by decide) hl) fok15 (.own rfl rfl (.cons rfl (.pure rfl) .nil)) rfl rfl rfl (Cn _ _) (by decide) rfl)<|qZ rfl (iW _ (by omega))<|Od rfl rfl (Bs rfl ty25 (.cons rfl rfl rfl rfl (Sl rfl) .nil))<|qB rfl ty25<|qS rfl ty25 (Sl rfl) rfl<|Nl ?_
 obtain ⟨sw,hsw⟩:∃ sw:Int,(n:Int) + nextV l at_ 4=sw:=⟨_,rfl⟩
 rw [hsw]
 have hs1:(n:Int)≤sw:=by omega
 have hs7:sw≤7:=by omega
 clear hsw hv
 refine Wq<|qW 17 22 rfl<|qF rfl ty25 rfl<|qL rfl ty3 rfl<|Od rfl rfl (LO.min rfl rfl rfl)<|qF rfl ty25 rfl<|qS rfl ty3 (Sl rfl) rfl<|Nl ?_
 rw [if_neg (show ¬ (8:Int) < sw by omega)]
 generalize nextAt l at_=a1
 have hk:=nextV_bd l a1 12 (by decide)
 refine Wq<|Wq<|qW 26 29 rfl<|qM rfl<|Od rfl rfl (C1 (fr:=[]) rfl rfl (next_any l a1 12 (by decide) (by decide) hl) fok15 (.own rfl rfl (.cons rfl (.pure rfl) .nil)) rfl rfl rfl (Cn _ _) (by decide) rfl)<|qA rfl<|Nl ?_
 generalize nextV l a1 12=k at hk
 generalize nextAt l a1=a2
 refine Wb<|W.namec 29 (29 + 1) (q:=11) (j:=1) (sz:=3) rfl rfl (Sl rfl) (by decide) (by decide) (by decide)<|W.rename [(0,0),(1,1),(2,11),(3,29)] 4 (T':=up (up (up (up mt 6 (some (.base (.int .i64 k)))) 5 (some (.own 2 0))) 4 (some (.own 1 0))) 0 (some (.own 0 0))) (H':=up (up (up (up mt 3 (some [])) 2 (some [.base (.int .i64 sw),.osl 3 0 0 3,.nils,.nils])) 1 (some [.base (.int .i64 0),.nils,.nils,.nils])) 0 (some (deckC l a2))) (by decide) ?_ ?_ ?_
 ·exact aU (lI rfl) (aU (lI rfl) (aU (lI rfl) (aU (lR rfl) aM)))
 ·exact aU (kR rfl) (aU (kR rfl) (aU (kI rfl) (aU (kR rfl) aM)))
 refine W.loop_ind (α:=Int × Nat × Nat × List AV) (fun x=>x.1.toNat) 4 (fun x=>up (up (up (up mt 6 (some (.base (.int .i64 x.1)))) 5 (some (.own 2 0))) 4 (some (.own 1 0))) 0 (some (.own 0 0))) (fun x=>up (up (up (up mt 3 (some x.2.2.2)) 2 (some [.base (.int .i64 sw),.osl 3 0 x.2.2.1 3,.nils,.nils])) 1 (some [.base (.int .i64 0),.nils,.nils,.nils])) 0 (some (deckC l x.2.1)))
  (fun x=>0≤x.1∧x.2.2.1 + x.1≤11∧LksAt sw x.2.2.1 x.2.2.2) (k,a2,0,[]) ⟨by omega,by simp;omega,[],rfl,rfl,fun x h=>by cases h⟩ ?_
 rintro ⟨k,a,q,cs⟩ ⟨hk0,hk1,hcs⟩ ih
 dsimp only at hk0 hk1 hcs ⊢
 by_cases hc:0 < k∧1 < sw
 ·obtain ⟨c1,c2⟩:=hc
  have g1:decide (0 < k)=true:=decide_eq_true c1
  have g2:decide (1 < sw)=true:=decide_eq_true c2
  refine Wq<|Wq<|qW 33 40 rfl<|qM rfl<|qGt rfl<|qM rfl<|gF rfl ‹_› ty25 rfl<|gL rfl ‹_› ty3 rfl<|gGt rfl ‹_›<|qT rfl ‹_› rfl<|Nl<|Wt rfl ‹_›<|Wu<|Wq<|Wb ?_
  have b1:=nextV_bd l a sw (by omega)
  refine Wq<|qW 44 49 rfl<|qM rfl<|qF rfl ty25 rfl<|qL rfl ty3 rfl<|Od rfl rfl (C1 (fr:=[]) rfl rfl (next_any l a sw (by omega) (by omega) hl) fok15 (.own rfl rfl (.cons rfl (.pure rfl) .nil)) rfl rfl rfl (Cn _ _) (by decide) rfl)<|qA rfl<|Nl ?_
  generalize nextV l a sw=va at b1
  generalize nextAt l a=a1
  have b2:=nextV_bd l a1 (sw - 1) (by omega)
  refine Wq<|Wd 53 65 (by decide) rfl mixed rfl<|qM rfl<|qZ rfl (iW _ (by omega))<|qM rfl<|qF rfl ty25 rfl<|qL rfl ty3 rfl<|Od rfl rfl (LO.sub_in rfl rfl rfl (iW _ (by omega)))<|Od rfl rfl (C1 (fr:=[]) rfl rfl (next_any l a1 (sw - 1) (by omega) (by omega) hl) fok15 (.own rfl rfl (.cons rfl (.pure rfl) .nil)) rfl rfl rfl (Cn _ _) (by decide) rfl)<|qZ rfl (iW _ (by omega))<|qF rfl ty25 rfl<|qL rfl ty3 rfl<|Od rfl rfl (LO.rem_in rfl rfl rfl (by omega) (by omega))<|qA rfl<|Nl ⟨by kernel_rfl,?_⟩
  generalize hvb:(va + 1 + nextV l a1 (sw - 1)) % sw=vb
  have b3:0≤vb∧vb < sw∧va≠vb:=by
   have h1:=Int.emod_nonneg (va + 1 + nextV l a1 (sw - 1)) (show sw≠0 by omega)
   have h2:=Int.emod_lt_of_pos (va + 1 + nextV l a1 (sw - 1)) (show 0 < sw by omega)
   refine ⟨by omega,by omega,fun e=>?_⟩
   by_cases h3:va + 1 + nextV l a1 (sw - 1) < sw
   ·rw [Int.emod_eq_of_lt (by omega) h3] at hvb;omega
   ·rw [← Int.sub_emod_right,Int.emod_eq_of_lt (by omega) (by omega)] at hvb;omega
  clear hvb b2
  generalize nextAt l a1=a2
  have b4:=nextV_bd l a2 10 (by decide)
  refine Wd 69 81 (by decide) rfl mixed rfl<|qF rfl ty25 rfl<|qL rfl ty22 rfl<|qM rfl<|qM rfl<|qM rfl<|Od rfl rfl (C1 (fr:=[]) rfl rfl (next_any l a2 10 (by decide) (by decide) hl) fok15 (.own rfl rfl (.cons rfl (.pure rfl) .nil)) rfl rfl rfl (Cn _ _) (by decide) rfl)<|qZ rfl (iW _ (by omega))<|Od rfl rfl (Bs rfl ty38 (.cons rfl rfl rfl rfl (Sl rfl) (.cons rfl rfl rfl rfl (Sl rfl) (.cons rfl rfl rfl rfl (Sl rfl) .nil))))<|Od rfl rfl (LO.buildSlice rfl ty22 ty38 (by decide) (by decide) (.cons rfl rfl rfl rfl (Sl rfl) .nil))<|Od rfl rfl (Lap rfl rfl (Sso rfl rfl (Tl rfl)) rfl (tk_all hcs.len) ty22 ty22 ty38 (by decide) (by omega) (by omega) (by decide))<|qF rfl ty25 rfl<|qS rfl ty22 (Sl rfl) rfl<|Nl ⟨by kernel_rfl,(qW 85 88 rfl<|qM rfl<|Od rfl rfl (LO.sub_in rfl rfl rfl (iW _ (by omega)))<|qA rfl<|Nl ?_)⟩
  have hcs':=hcs.snoc (a:=va) (b:=vb) (c:=1 + nextV l a2 10) (lnkOK b1.1 b1.2 b3.1 b3.2.1 b3.2.2 (by omega) (by omega))
  refine WL.rename [(0,0),(1,1),(2,2),(3,78)] 4 (by decide) ?_ ?_ (ih (k - 1,nextAt l a2,q + 1,cs++[.base (.int .i64 va),.base (.int .i64 vb),.base (.int .i64 (1 + nextV l a2 10))]) (by simp;omega) ⟨by simp;omega,by simp;omega,hcs'⟩)
  ·exact aU (lI rfl) (aU (lI rfl) (aU (lI rfl) (aU (lR rfl) aM)))
  ·exact aU (kR rfl) (aU (kR rfl) (aU (kI rfl) (aU (kP rfl hcs'.pure) aM)))
 ·rcases Int.lt_or_le 0 k with c1|c1
  case' inl =>
   have g1:decide (0 < k)=true:=decide_eq_true c1
   have g2:decide (1 < sw)=false:=decide_eq_false (fun h=>hc ⟨c1,h⟩)
   refine Wq<|Wq<|qW 33 40 rfl<|qM rfl<|qGt rfl<|qM rfl<|gF rfl ‹_› ty25 rfl<|gL rfl ‹_› ty3 rfl<|gGt rfl ‹_›<|qT rfl ‹_› rfl<|Nl<|Wo rfl ‹_›<|Wx ?_
  case' inr =>
   have g1:decide (0 < k)=false:=decide_eq_false (by omega)
   refine Wq<|Wq<|qW 33 40 rfl<|qM rfl<|qGt rfl<|qM rfl<|qD rfl ‹_› rfl<|qD rfl ‹_› rfl<|qD rfl ‹_› rfl<|qP rfl ‹_› rfl<|Nl<|Wo rfl rfl<|Wx ?_
  all_goals
   clear ih
   repeat (refine Wq ?_)
   refine qW 92 93 rfl<|qA rfl<|Nl<|Wb<|W.rename [(0,0),(1,1),(2,2),(3,3)] 4 (T':=up (up (up (up mt 9 (some (.base (.int .i64 1)))) 5 (some (.own 2 0))) 4 (some (.own 1 0))) 0 (some (.own 0 0))) (H':=up (up (up (up mt 3 (some cs)) 2 (some [.base (.int .i64 sw),.osl 3 0 q 3,.nils,.nils])) 1 (some [.base (.int .i64 0),.nils,.nils,.nils])) 0 (some (deckC l a))) (by decide) ?_ ?_ ?_
   ·exact aU (lI rfl) (aU (lI rfl) (aU (lI rfl) (aU (lR rfl) aM)))
   ·exact aU (kR rfl) (aU (kR rfl) (aU (kI rfl) (aU (kP rfl hcs.pure) aM)))
   refine W.loop_ind (α:=Int × Nat × Nat × List AV) (fun x=>(sw - x.1).toNat) 4 (fun x=>up (up (up (up mt 9 (some (.base (.int .i64 x.1)))) 5 (some (.own 2 0))) 4 (some (.own 1 0))) 0 (some (.own 0 0))) (fun x=>up (up (up (up mt 3 (some x.2.2.2)) 2 (some [.base (.int .i64 sw),.osl 3 0 x.2.2.1 3,.nils,.nils])) 1 (some [.base (.int .i64 0),.nils,.nils,.nils])) 0 (some (deckC l x.2.1)))
    (fun x=>1≤x.1∧x.1≤sw∧x.2.2.1≤10 + x.1∧LksAt sw x.2.2.1 x.2.2.2) (1,a,q,cs) ⟨Int.le_refl 1,by simp;omega,by simp;omega,hcs⟩ ?_
   clear hc c1 hcs hk1 hk0 g1
   rintro ⟨i,a,q,cs⟩ ⟨hi0,hi1,hi2,hcs⟩ ih
   dsimp only at hi0 hi1 hi2 hcs ⊢
   by_cases hc:i < sw
   ·have g1:decide (i < sw)=true:=decide_eq_true hc
    repeat (refine Wq ?_)
    refine qW 97 101 rfl<|qM rfl<|qF rfl ty25 rfl<|qL rfl ty3 rfl<|qK rfl<|Nl<|Wt rfl ‹_›<|Wu ?_
    repeat (refine Wq ?_)
    refine Wb ?_
    repeat (refine Wq ?_)
    refine qW 105 108 rfl<|qM rfl<|Od rfl rfl (C1 (fr:=[]) rfl rfl (next_any l a 4 (by decide) (by decide) hl) fok15 (.own rfl rfl (.cons rfl (.pure rfl) .nil)) rfl rfl rfl (Cn _ _) (by decide) rfl)<|qGt rfl<|Nl ?_
    generalize nextV l a 4=r1
    generalize nextAt l a=a1
    refine W.cond rfl (fun hb=>?_) (fun hb=>?_)
    ·have b1:=nextV_bd l a1 i (by omega)
     refine Wd 112 126 (by decide) rfl mixed rfl<|qF rfl ty25 rfl<|qL rfl ty22 rfl<|qM rfl<|qM rfl<|qM rfl<|Od rfl rfl (C1 (fr:=[]) rfl rfl (next_any l a1 i (by omega) (by omega) hl) fok15 (.own rfl rfl (.cons rfl (.pure rfl) .nil)) rfl rfl rfl (Cn _ _) (by decide) rfl)<|qM rfl ?_
     generalize nextV l a1 i=vb at b1
     generalize nextAt l a1=a2
     have b2:=nextV_bd l a2 10 (by decide)
     refine Od rfl rfl (C1 (fr:=[]) rfl rfl (next_any l a2 10 (by decide) (by decide) hl) fok15 (.own rfl rfl (.cons rfl (.pure rfl) .nil)) rfl rfl rfl (Cn _ _) (by decide) rfl)<|qZ rfl (iW _ (by omega))<|Od rfl rfl (Bs rfl ty38 (.cons rfl rfl rfl rfl (Sl rfl) (.cons rfl rfl rfl rfl (Sl rfl) (.cons rfl rfl rfl rfl (Sl rfl) .nil))))<|Od rfl rfl (LO.buildSlice rfl ty22 ty38 (by decide) (by decide) (.cons rfl rfl rfl rfl (Sl rfl) .nil))<|Od rfl rfl (Lap rfl rfl (Sso rfl rfl (Tl rfl)) rfl (tk_all hcs.len) ty22 ty22 ty38 (by decide) (by omega) (by omega) (by decide))<|qF rfl ty25 rfl<|qS rfl ty22 (Sl rfl) rfl<|Nl ⟨by kernel_rfl,(qW 130 133 rfl<|qM rfl<|qZ rfl (iW _ (by omega))<|qA rfl<|Nl ?_)⟩
     have hcs':=hcs.snoc (a:=i) (b:=vb) (c:=1 + nextV l a2 10) (lnkOK (by omega) (by omega) b1.1 (by omega) (by omega) (by omega) (by omega))
     refine WL.rename [(0,0),(1,1),(2,2),(3,123)] 4 (by decide) ?_ ?_ (ih (i + 1,nextAt l a2,q + 1,cs++[.base (.int .i64 i),.base (.int .i64 vb),.base (.int .i64 (1 + nextV l a2 10))]) (by simp;omega) ⟨by simp;omega,by simp;omega,by simp;omega,hcs'⟩)
     ·exact aU (lI rfl) (aU (lI rfl) (aU (lI rfl) (aU (lR rfl) aM)))
     ·exact aU (kR rfl) (aU (kR rfl) (aU (kI rfl) (aU (kP rfl hcs'.pure) aM)))
    ·refine Wu<|qW 130 133 rfl<|qM rfl<|qZ rfl (iW _ (by omega))<|qA rfl<|Nl<|WL.rename [(0,0),(1,1),(2,2),(3,3)] 4 (by decide) ?_ ?_ (ih (i + 1,a1,q,cs) (by simp;omega) ⟨by simp;omega,by simp;omega,by simp;omega,hcs⟩)
     ·exact aU (lI rfl) (aU (lI rfl) (aU (lI rfl) (aU (lR rfl) aM)))
     ·exact aU (kR rfl) (aU (kR rfl) (aU (kI rfl) (aU (kP rfl hcs.pure) aM)))
   ·have g1:decide (i < sw)=false:=decide_eq_false hc
    clear ih
    have hq:q≤17:=by omega
    clear hi0 hi1 hi2 hc
    repeat (refine Wq ?_)
    refine qW 97 101 rfl<|qM rfl<|qF rfl ty25 rfl<|qL rfl ty3 rfl<|qK rfl<|Nl<|Wo rfl ‹_›<|Wx ?_
    repeat (refine Wq ?_)
    refine qW 137 141 rfl<|qF rfl ty25 rfl<|qL rfl ty22 rfl<|Od rfl rfl (LO.len rfl rfl ty22)<|qM rfl<|Nl<|Wb<|W.namec 141 (141 + 1) (q:=2) (j:=2) (sz:=1) rfl rfl (Sl rfl) (by decide) (by decide) (by decide)<|W.rename [(0,0),(1,1),(2,2),(3,3),(4,141)] 5 (T':=up (up (up (up (up mt 80 (some (.base (.int .i64 (q:Int))))) 81 (some (.base (.int .i64 0)))) 5 (some (.own 2 0))) 4 (some (.own 1 0))) 0 (some (.own 0 0))) (H':=up (up (up (up (up mt 4 (some [])) 3 (some cs)) 2 (some [.base (.int .i64 sw),.osl 3 0 q 3,.osl 4 0 0 1,.nils])) 1 (some [.base (.int .i64 0),.nils,.nils,.nils])) 0 (some (deckC l a))) (by decide) ?_ ?_ ?_
    ·exact aU (lI rfl) (aU (lI rfl) (aU (lI rfl) (aU (lR rfl) (aU (lR rfl) aM))))
    ·exact aU (kR rfl) (aU (kR rfl) (aU (kI rfl) (aU (kP rfl hcs.pure) (aU (kR rfl) aM))))
    refine W.loop_ind (α:=Int × Nat × Nat × List AV) (fun x=>(q - x.1).toNat) 5 (fun x=>up (up (up (up (up mt 80 (some (.base (.int .i64 (q:Int))))) 81 (some (.base (.int .i64 x.1)))) 5 (some (.own 2 0))) 4 (some (.own 1 0))) 0 (some (.own 0 0))) (fun x=>up (up (up (up (up mt 4 (some x.2.2.2)) 3 (some cs)) 2 (some [.base (.int .i64 sw),.osl 3 0 q 3,.osl 4 0 x.2.2.1 1,.nils])) 1 (some [.base (.int .i64 0),.nils,.nils,.nils])) 0 (some (deckC l x.2.1)))
     (fun x=>x.1=x.2.2.1∧x.2.2.1≤q∧BlsAt x.2.2.1 x.2.2.2) (0,a,0,[]) ⟨rfl,Nat.zero_le _,[],rfl,rfl⟩ ?_
    clear g1
    rintro ⟨j,a,z,ds⟩ ⟨hj0,hj1,hds⟩ ih
    dsimp only at hj0 hj1 hds ⊢
    by_cases hc:j < q
    ·have g1:decide (j < (q:Int))=true:=decide_eq_true hc
     repeat (refine Wq ?_)
     refine qW 145 146 rfl<|qK rfl<|Nl ?_
     repeat (refine Wq ?_)
     refine Wt rfl ‹_›<|Wu ?_
     repeat (refine Wq ?_)
     refine Wb<|Wd 150 159 (by decide) rfl mixed rfl<|qF rfl ty25 rfl<|qL rfl ty23 rfl<|qM rfl<|Od rfl rfl (C1 (fr:=[]) rfl rfl (next_any l a 6 (by decide) (by decide) hl) fok15 (.own rfl rfl (.cons rfl (.pure rfl) .nil)) rfl rfl rfl (Cn _ _) (by decide) rfl)<|qE rfl<|Od rfl rfl (LO.buildSlice rfl ty23 ty4 (by decide) (by decide) (.cons rfl rfl rfl rfl (Sl rfl) .nil))<|Od rfl rfl (Lap rfl rfl (Sso rfl rfl (Tl rfl)) rfl (tk_all hds.len) ty23 ty23 ty4 (by decide) (by omega) (by omega) (by decide))<|qF rfl ty25 rfl<|qS rfl ty23 (Sl rfl) rfl<|Nl ⟨by kernel_rfl,(qW 163 165 rfl<|qZ rfl (iW _ (by omega))<|qM rfl<|Nl ?_)⟩
     have hds':=hds.snoc (nextV l a 6 == 5)
     refine WL.rename [(0,0),(1,1),(2,2),(3,3),(4,156)] 5 (by decide) ?_ ?_ (ih (j + 1,nextAt l a,z + 1,ds++[.base (.bool (nextV l a 6 == 5))]) (by simp;omega) ⟨by simp;omega,by simp;omega,hds'⟩)
     ·exact aU (lI rfl) (aU (lI rfl) (aU (lI rfl) (aU (lR rfl) (aU (lR rfl) aM))))
     ·exact aU (kR rfl) (aU (kR rfl) (aU (kI rfl) (aU (kP rfl hcs.pure) (aU (kP rfl hds'.pure) aM))))
    ·have g1:decide (j < (q:Int))=false:=decide_eq_false hc
     clear ih
     obtain rfl:z=q:=by omega
     clear hj0 hj1 hc
     repeat (refine Wq ?_)
     refine qW 145 146 rfl<|qK rfl<|Nl ?_
     repeat (refine Wq ?_)
     refine Wo rfl ‹_›<|Wx ?_
     repeat (refine Wq ?_)
     refine qW 169 172 rfl<|qF rfl ty25 rfl<|qL rfl ty3 rfl<|qM rfl<|Nl<|Wb<|W.namec 172 (172 + 1) (q:=2) (j:=3) (sz:=1) rfl rfl (Sl rfl) (by decide) (by decide) (by decide)<|W.rename [(0,0),(1,1),(2,2),(3,3),(4,4),(5,172)] 6 (T':=up (up (up (up (up mt 93 (some (.base (.int .i64 sw)))) 94 (some (.base (.int .i64 0)))) 5 (some (.own 2 0))) 4 (some (.own 1 0))) 0 (some (.own 0 0))) (H':=up (up (up (up (up (up mt 5 (some [])) 4 (some ds)) 3 (some cs)) 2 (some [.base (.int .i64 sw),.osl 3 0 z 3,.osl 4 0 z 1,.osl 5 0 0 1])) 1 (some [.base (.int .i64 0),.nils,.nils,.nils])) 0 (some (deckC l a))) (by decide) ?_ ?_ ?_
     ·exact aU (lI rfl) (aU (lI rfl) (aU (lI rfl) (aU (lR rfl) (aU (lR rfl) aM))))
     ·exact aU (kR rfl) (aU (kR rfl) (aU (kI rfl) (aU (kP rfl hcs.pure) (aU (kP rfl hds.pure) (aU (kR rfl) aM)))))
     refine W.loop_ind (α:=Int × Nat × Nat × List AV) (fun x=>(sw - x.1).toNat) 6 (fun x=>up (up (up (up (up mt 93 (some (.base (.int .i64 sw)))) 94 (some (.base (.int .i64 x.1)))) 5 (some (.own 2 0))) 4 (some (.own 1 0))) 0 (some (.own 0 0))) (fun x=>up (up (up (up (up (up mt 5 (some x.2.2.2)) 4 (some ds)) 3 (some cs)) 2 (some [.base (.int .i64 sw),.osl 3 0 z 3,.osl 4 0 z 1,.osl 5 0 x.2.2.1 1])) 1 (some [.base (.int .i64 0),.nils,.nils,.nils])) 0 (some (deckC l x.2.1)))
      (fun x=>x.1=x.2.2.1∧x.1≤sw∧BlsAt x.2.2.1 x.2.2.2) (0,a,0,[]) ⟨rfl,by simp;omega,[],rfl,rfl⟩ ?_
     clear g1
     rintro ⟨j,a,y,es⟩ ⟨hj0,hj1,hes⟩ ih
     dsimp only at hj0 hj1 hes ⊢
     by_cases hc:j < sw
     ·have g1:decide (j < sw)=true:=decide_eq_true hc
      repeat (refine Wq ?_)
      refine qW 176 177 rfl<|qK rfl<|Nl ?_
      repeat (refine Wq ?_)
      refine Wt rfl ‹_›<|Wu ?_
      repeat (refine Wq ?_)
      refine Wb<|Wd 181 190 (by decide) rfl mixed rfl<|qF rfl ty25 rfl<|qL rfl ty23 rfl<|qM rfl<|Od rfl rfl (C1 (fr:=[]) rfl rfl (next_any l a 9 (by decide) (by decide) hl) fok15 (.own rfl rfl (.cons rfl (.pure rfl) .nil)) rfl rfl rfl (Cn _ _) (by decide) rfl)<|qE rfl<|Od rfl rfl (LO.buildSlice rfl ty23 ty4 (by decide) (by decide) (.cons rfl rfl rfl rfl (Sl rfl) .nil))<|Od rfl rfl (Lap rfl rfl (Sso rfl rfl (Tl rfl)) rfl (tk_all hes.len) ty23 ty23 ty4 (by decide) (by omega) (by omega) (by decide))<|qF rfl ty25 rfl<|qS rfl ty23 (Sl rfl) rfl<|Nl ⟨by kernel_rfl,(qW 194 196 rfl<|qZ rfl (iW _ (by omega))<|qM rfl<|Nl ?_)⟩
      have hes':=hes.snoc (nextV l a 9 == 8)
      refine WL.rename [(0,0),(1,1),(2,2),(3,3),(4,4),(5,187)] 6 (by decide) ?_ ?_ (ih (j + 1,nextAt l a,y + 1,es++[.base (.bool (nextV l a 9 == 8))]) (by simp;omega) ⟨by simp;omega,by simp;omega,hes'⟩)
      ·exact aU (lI rfl) (aU (lI rfl) (aU (lI rfl) (aU (lR rfl) (aU (lR rfl) aM))))
      ·exact aU (kR rfl) (aU (kR rfl) (aU (kI rfl) (aU (kP rfl hcs.pure) (aU (kP rfl hds.pure) (aU (kP rfl hes'.pure) aM)))))
     ·have g1:decide (j < sw)=false:=decide_eq_false hc
      clear ih
      repeat (refine Wq ?_)
      refine qW 176 177 rfl<|qK rfl<|Nl ?_
      repeat (refine Wq ?_)
      refine Wo rfl ‹_›<|Wx<|Wv (q:=2) (j:=1) (r:=3) rfl rfl (by decide) rfl (tk_all hcs.len) hcs.pure (Sl rfl)<|Wv (q:=2) (j:=2) (r:=4) rfl rfl (by decide) rfl (tk_all hds.len) hds.pure (Sl rfl)<|Wv (q:=2) (j:=3) (r:=5) rfl rfl (by decide) rfl (tk_all hes.len) hes.pure (Sl rfl) ?_
      repeat (refine Wq ?_)
      refine qW 200 202 rfl<|qG rfl ty25 rfl (Tl rfl)<|qS rfl ty25 (Sl rfl) rfl<|Nl ?_
      obtain ⟨ls,hl1,hl2,hl3⟩:=hcs
      obtain ⟨bs,hb1,hb2⟩:=hds
      obtain ⟨cs',he1,he2⟩:=hes
      refine Wz ⟨.inl rfl,_,up mt 0 (some (deckC l a)),Rc (Ra0 rfl rfl ty25 rfl (Tl rfl)) Rv,aU rfl aM,?_⟩
      refine ⟨⟨sw,ls,bs,cs'⟩,a,⟨⟨by simp;omega,hs7,hl3,by simp;omega,by simp;omega,by simp;omega⟩,hs1⟩,?_,rfl⟩
      subst hl2 hb2 he2
      simp only [retOf,fabC,hl1,← hb1,← he1]
end Go.Proofs.Ytneidpjkboaejaa
