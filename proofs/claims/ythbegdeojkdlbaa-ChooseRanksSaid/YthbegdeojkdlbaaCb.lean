/-
  Communities from a list of numbers.
-/
import Derived.Test.YthbegdeojkdlbaaOq
import Derived.Test.YthbegdeojkdlbaaMab
namespace Go.Proofs.Ythbegdeojkdlbaa
open Go.RowKit
theorem cells_tk {os:List AV} {n sz:Nat} (h:os.length=n * sz):Tk os 0 (n * sz) os:=by
 have:=Tk.all os
 rwa [h] at this
def comL:List AV:=[.base (.int .i64 0),.base (.int .i64 99),.base (.int .i64 0),.base (.int .i64 101),.base (.int .i64 0),.base (.int .i64 102),.base (.int .i64 99),.base (.int .i64 101),.base (.int .i64 99),.base (.int .i64 103),.base (.int .i64 500),.base (.int .i64 1),.base (.int .i64 65535),.base (.int .i64 666),.base (.int .i64 65535),.base (.int .i64 65282)]
theorem comL_at {i:Nat} (h:i < 8):∃ x y:Int,Tk comL (0 + i * 2) 2 [.base (.int .i64 x),.base (.int .i64 y)]:=by
 rcases (show i=0∨i=1∨i=2∨i=3∨i=4∨i=5∨i=6∨i=7 by omega) with rfl|rfl|rfl|rfl|rfl|rfl|rfl|rfl<;>exact ⟨_,_,Tk.lit rfl⟩
set_option maxHeartbeats 1000000 in
theorem comms_any (l:List Int) (at_:Nat) (hl:l.length≤9223372036854775807) :
 ∃ v H',AFn Try.prog 31 1 [.own 0 0] (up mt 0 (some (deckC l at_))) v H'∧∃ (cs:List AV) (n at':Nat),v=.isl cs n∧H'=up mt 0 (some (deckC l at')):=by
 refine AFn.ex Try.func31 rfl rfl (Nat.le_of_ble_eq_true rfl) ?_
 obtain ⟨a1,ha1⟩:∃ a1,nextAt l at_=a1:=⟨_,rfl⟩
 have n1:=next_any l at_ 65536 (by decide) (by decide) hl
 obtain ⟨e1,he1⟩:∃ e1,nextV l at_ 65536=e1:=⟨_,rfl⟩
 rw [he1,ha1] at n1
 refine Wq<|qW 1 2 rfl<|qA rfl<|Nl<|Wq<|qW 6 16 rfl<|Od rfl rfl (Bs rfl ty84 (.cons rfl rfl rfl rfl (Sl rfl) (.cons rfl rfl rfl rfl (Sl rfl) .nil)))<|Od rfl rfl (Bs rfl ty84 (.cons rfl rfl rfl rfl (Sl rfl) (.cons rfl rfl rfl rfl (Sl rfl) .nil)))<|Od rfl rfl (Bs rfl ty84 (.cons rfl rfl rfl rfl (Sl rfl) (.cons rfl rfl rfl rfl (Sl rfl) .nil)))<|Od rfl rfl (Bs rfl ty84 (.cons rfl rfl rfl rfl (Sl rfl) (.cons rfl rfl rfl rfl (Sl rfl) .nil)))<|Od rfl rfl (Bs rfl ty84 (.cons rfl rfl rfl rfl (Sl rfl) (.cons rfl rfl rfl rfl (Sl rfl) .nil)))<|Od rfl rfl (Bs rfl ty84 (.cons rfl rfl rfl rfl (Sl rfl) (.cons rfl rfl rfl rfl (Sl rfl) .nil)))<|Od rfl rfl (Bs rfl ty84 (.cons rfl rfl rfl rfl (Sl rfl) (.cons rfl rfl rfl rfl (Sl rfl) .nil)))<|Od rfl rfl (Bs rfl ty84 (.cons rfl rfl rfl rfl (Sl rfl) (.cons rfl rfl rfl rfl (Sl rfl) .nil)))<|Od rfl rfl (LO.buildSlice rfl ty48 ty84 (by decide) (by decide) (.cons rfl rfl rfl rfl (Sl rfl) (.cons rfl rfl rfl rfl (Sl rfl) (.cons rfl rfl rfl rfl (Sl rfl) (.cons rfl rfl rfl rfl (Sl rfl) (.cons rfl rfl rfl rfl (Sl rfl) (.cons rfl rfl rfl rfl (Sl rfl) (.cons rfl rfl rfl rfl (Sl rfl) (.cons rfl rfl rfl rfl (Sl rfl) .nil)))))))))<|qA rfl<|Nl<|Wq<|qW 20 21 rfl<|qA rfl<|Nl<|Wq<|qW 25 28 rfl<|qM rfl<|Od rfl rfl (C1 (fr:=[]) rfl rfl (n1) fok13 (.own rfl rfl (.cons rfl (.pure rfl) .nil)) rfl rfl rfl (Cn _ _) (by decide) rfl)<|qA rfl<|Nl<|Wq<|Wq<|qW 32 35 rfl<|qM rfl<|Od rfl rfl (LO.len rfl rfl ty48)<|qM rfl<|Nl<|W.name 35 (35 + 1) (t:=4) (sz:=2) rfl (by decide) (by decide)<|Wb<|W.loop_keep (α:=Nat × Nat × List AV × Nat) (fun x=>8 - x.1) 3 (fun x=>[(0,.own 0 0),(4,.osl 1 0 x.2.2.2 2),(19,.osl 2 0 8 2),(21,.base (.int .i64 (x.1:Int)))]) (fun x=>up (up (up mt 0 (some (deckC l x.2.1))) 1 (some (x.2.2.1))) 2 (some (comL))) (fun x=>(x.1≤8∧x.2.2.2≤x.1)∧x.2.2.1.length=x.2.2.2 * 2∧x.2.2.1.all AV.pure1=true) (0,a1,(([]:List AV)),0) [(0,0),(1,35),(2,14)] (.cons (t:=5) rfl (by exact .inl rfl) (.cons (t:=20) rfl (by exact .inl rfl) .nil)) (show (0≤8∧0≤0)∧(([]:List AV)).length=0 * 2∧(([]:List AV)).all AV.pure1=true from ⟨⟨by decide,by decide⟩,rfl,rfl⟩) (by decide) ?_ ?_ ?_
 ·exact lC (lI rfl) (lC (lI rfl) (lC (lI rfl) (lC (lR rfl) lN)))
 ·exact aU (kR rfl) (aU (kR rfl) (aU (kR rfl) aM))
 rintro ⟨i,a,os,n⟩ hIA ihA
 try (dsimp only at hIA)
 try dsimp only [baseT,List.cons_append,List.nil_append]
 obtain ⟨⟨hi,hni⟩,hol,hop⟩:=hIA
 by_cases hc:i < 8
 rotate_left
 ·have g1:decide ((i:Int) < 8)=false:=decide_eq_false (by omega)
  refine Wq<|qW 39 40 rfl<|qK rfl<|Nl<|Wq<|Wo rfl ‹_›<|Wx<|Wq<|qW 89 91 rfl<|qM rfl<|qA rfl<|Nl<|Wy (t:=2) rfl rfl (cells_tk hol) hop<|Wz ⟨.inl rfl,_,(up mt 0 (some (deckC l a))),(Rc (Rt0 rfl) Rv),(aU rfl aM),?_⟩
  exact ⟨os,n,a,rfl,rfl⟩
 have g1:decide ((i:Int) < 8)=true:=decide_eq_true (by omega)
 obtain ⟨x,y,hxy⟩:=comL_at hc
 have hii:(i:Int) + 1=((i + 1:Nat):Int):=by omega
 obtain ⟨e2,he2⟩:∃ e2,nextV l a 2=e2:=⟨_,rfl⟩
 obtain ⟨a2,ha2⟩:∃ a2,nextAt l a=a2:=⟨_,rfl⟩
 have n2:=next_any l a 2 (by decide) (by decide) hl
 rw [he2,ha2] at n2
 refine Wq<|qW 39 40 rfl<|qK rfl<|Nl<|Wq<|Wt rfl ‹_›<|Wu<|Wq<|Wb<|Wq<|qW 44 50 rfl<|qM rfl<|Od rfl rfl (Ia rfl rfl rfl rfl ty48 ty84 (by omega))<|qG rfl ty84 rfl hxy<|qB rfl ty84<|qA rfl<|qS rfl ty84 (Sl rfl) rfl<|Nl<|Wq<|qW 54 70 rfl<|qM rfl<|qM rfl<|Od rfl rfl (LO.mul_in rfl rfl rfl (iW _ (by omega)))<|Od rfl rfl (Ci rfl rfl ty3 ty82 (IntWalk.u64_in _ (by omega)))<|Od rfl rfl (LO.shr rfl rfl rfl (by omega))<|Od rfl rfl (LO.and rfl rfl rfl)<|qE rfl ?_
 obtain ⟨B,hB⟩:∃ B,(bitV .and .i64 (e1.fdiv (2 ^ (min (2 * (i:Int)).toNat IntKind.i64.bits))) 3 == 3)=B:=⟨_,rfl⟩
 rw [hB]
 cases B
 ·have k1:false=false:=rfl
  refine qM rfl<|qD rfl rfl rfl<|qD rfl rfl rfl<|qD rfl rfl rfl<|Ud rfl rfl rfl rfl<|Ud rfl rfl rfl rfl<|Ud rfl rfl rfl rfl<|qD rfl rfl rfl<|qP rfl rfl rfl<|Nl<|Wo rfl (rfl)<|Wu<|qW 83 85 rfl<|qZ rfl (iW _ (by omega))<|qM rfl<|Nl ?_
  rw [hii]
  refine WL.renameL [(0,0),(1,1),(2,2)] 3 (by decide) ?_ ?_ (ihA ((i + 1),a,os,n) (show 8 - (i + 1) < 8 - i from by omega) (show ((i + 1)≤8∧n≤(i + 1))∧os.length=n * 2∧os.all AV.pure1=true from ⟨⟨by omega,by omega⟩,hol,hop⟩))
  ·exact lC (lI rfl) (lC (lI rfl) (lC (lI rfl) (lC (lR rfl) (lC (lR rfl) (lC (lR rfl) lN)))))
  ·exact aU (kR rfl) (aU (kP rfl ‹_›) (aU (kR rfl) aM))
 ·rcases Bool.eq_false_or_eq_true (decide ((i:Int) < 6)) with k1|k1
  ·
   refine qM rfl<|gM rfl rfl<|gK rfl rfl<|gM rfl rfl<|qD rfl ‹_› rfl<|qD rfl ‹_› rfl<|qD rfl ‹_› rfl<|qU rfl rfl rfl (Pt rfl rfl ‹_› rfl)<|qT rfl rfl rfl<|Nl<|Wt rfl (rfl)<|qW 74 79 rfl<|qM rfl<|qG rfl ty84 rfl (Tl rfl)<|Od rfl rfl (LO.buildSlice rfl ty48 ty84 (by decide) (by decide) (.cons rfl rfl rfl rfl (Sl rfl) .nil))<|Od rfl rfl (Lap rfl rfl (Sso rfl rfl (Tl rfl)) rfl (cells_tk hol) ty48 ty48 ty84 (by decide) (by omega) (by omega) (by decide))<|qA rfl<|Nl<|qW 83 85 rfl<|qZ rfl (iW _ (by omega))<|qM rfl<|Nl ?_
   rw [hii]
   have hop2:(os++[AV.base (.int .i64 x),AV.base (.int .i64 y)]).all AV.pure1=true:=by rw [List.all_append,hop];rfl
   refine WL.renameL [(0,0),(1,77),(2,2)] 3 (by decide) ?_ ?_ (ihA ((i + 1),a,(os++[AV.base (.int .i64 x),AV.base (.int .i64 y)]),(n + 1)) (show 8 - (i + 1) < 8 - i from by omega) (show ((i + 1)≤8∧(n + 1)≤(i + 1))∧(os++[AV.base (.int .i64 x),AV.base (.int .i64 y)]).length=(n + 1) * 2∧(os++[AV.base (.int .i64 x),AV.base (.int .i64 y)]).all AV.pure1=true from ⟨⟨by omega,by omega⟩,(by rw [List.length_append,hol];show n * 2 + 2=(n + 1) * 2;omega),hop2⟩))
   ·exact lC (lI rfl) (lC (lI rfl) (lC (lI rfl) (lC (lR rfl) (lC (lR rfl) (lC (lR rfl) lN)))))
   ·exact aU (kR rfl) (aU (kP rfl ‹_›) (aU (kR rfl) aM))
  ·rcases Bool.eq_false_or_eq_true (e2 == 0) with k2|k2
   ·
    refine qM rfl<|gM rfl rfl<|gK rfl rfl<|gM rfl rfl<|gM rfl ‹_›<|qU rfl ‹_› rfl (C1 (fr:=[]) rfl rfl (n2) fok13 (.own rfl rfl (.cons rfl (.pure rfl) .nil)) rfl rfl rfl (Cn _ _) (by decide) rfl)<|gE rfl ‹_›<|qU rfl rfl rfl (Pf0 rfl rfl ‹_› rfl)<|qT rfl rfl rfl<|Nl<|Wt rfl ‹_›<|qW 74 79 rfl<|qM rfl<|qG rfl ty84 rfl (Tl rfl)<|Od rfl rfl (LO.buildSlice rfl ty48 ty84 (by decide) (by decide) (.cons rfl rfl rfl rfl (Sl rfl) .nil))<|Od rfl rfl (Lap rfl rfl (Sso rfl rfl (Tl rfl)) rfl (cells_tk hol) ty48 ty48 ty84 (by decide) (by omega) (by omega) (by decide))<|qA rfl<|Nl<|qW 83 85 rfl<|qZ rfl (iW _ (by omega))<|qM rfl<|Nl ?_
    rw [hii]
    have hop2:(os++[AV.base (.int .i64 x),AV.base (.int .i64 y)]).all AV.pure1=true:=by rw [List.all_append,hop];rfl
    refine WL.renameL [(0,0),(1,77),(2,2)] 3 (by decide) ?_ ?_ (ihA ((i + 1),a2,(os++[AV.base (.int .i64 x),AV.base (.int .i64 y)]),(n + 1)) (show 8 - (i + 1) < 8 - i from by omega) (show ((i + 1)≤8∧(n + 1)≤(i + 1))∧(os++[AV.base (.int .i64 x),AV.base (.int .i64 y)]).length=(n + 1) * 2∧(os++[AV.base (.int .i64 x),AV.base (.int .i64 y)]).all AV.pure1=true from ⟨⟨by omega,by omega⟩,(by rw [List.length_append,hol];show n * 2 + 2=(n + 1) * 2;omega),hop2⟩))
    ·exact lC (lI rfl) (lC (lI rfl) (lC (lI rfl) (lC (lR rfl) (lC (lR rfl) (lC (lR rfl) lN)))))
    ·exact aU (kR rfl) (aU (kP rfl ‹_›) (aU (kR rfl) aM))
   ·
    refine qM rfl<|gM rfl rfl<|gK rfl rfl<|gM rfl rfl<|gM rfl ‹_›<|qU rfl ‹_› rfl (C1 (fr:=[]) rfl rfl (n2) fok13 (.own rfl rfl (.cons rfl (.pure rfl) .nil)) rfl rfl rfl (Cn _ _) (by decide) rfl)<|gE rfl ‹_›<|qU rfl rfl rfl (Pf0 rfl rfl ‹_› rfl)<|qT rfl rfl rfl<|Nl<|Wo rfl ‹_›<|Wu<|qW 83 85 rfl<|qZ rfl (iW _ (by omega))<|qM rfl<|Nl ?_
    rw [hii]
    refine WL.renameL [(0,0),(1,1),(2,2)] 3 (by decide) ?_ ?_ (ihA ((i + 1),a2,os,n) (show 8 - (i + 1) < 8 - i from by omega) (show ((i + 1)≤8∧n≤(i + 1))∧os.length=n * 2∧os.all AV.pure1=true from ⟨⟨by omega,by omega⟩,hol,hop⟩))
    ·exact lC (lI rfl) (lC (lI rfl) (lC (lI rfl) (lC (lR rfl) (lC (lR rfl) (lC (lR rfl) lN)))))
    ·exact aU (kR rfl) (aU (kP rfl ‹_›) (aU (kR rfl) aM))
def larL:List AV:=[.base (.int .i64 5),.base (.int .i64 5),.base (.int .i64 5),.base (.int .i64 99),.base (.int .i64 0),.base (.int .i64 0),.base (.int .i64 99),.base (.int .i64 0),.base (.int .i64 103),.base (.int .i64 99),.base (.int .i64 1),.base (.int .i64 102),.base (.int .i64 99),.base (.int .i64 101),.base (.int .i64 0),.base (.int .i64 99),.base (.int .i64 102),.base (.int .i64 104),.base (.int .i64 99),.base (.int .i64 103),.base (.int .i64 101)]
theorem larL_at {i:Nat} (h:i < 7):∃ x y z:Int,Tk larL (0 + i * 3) 3 [.base (.int .i64 x),.base (.int .i64 y),.base (.int .i64 z)]:=by
 rcases (show i=0∨i=1∨i=2∨i=3∨i=4∨i=5∨i=6 by omega) with rfl|rfl|rfl|rfl|rfl|rfl|rfl<;>exact ⟨_,_,_,Tk.lit rfl⟩
set_option maxHeartbeats 1000000 in
theorem large_any (l:List Int) (at_:Nat) (hl:l.length≤9223372036854775807) :
 ∃ v H',AFn Try.prog 32 1 [.own 0 0] (up mt 0 (some (deckC l at_))) v H'∧∃ (cs:List AV) (n at':Nat),v=.isl cs n∧H'=up mt 0 (some (deckC l at')):=by
 refine AFn.ex Try.func32 rfl rfl (Nat.le_of_ble_eq_true rfl) ?_
 obtain ⟨a1,ha1⟩:∃ a1,nextAt l at_=a1:=⟨_,rfl⟩
 have n1:=next_any l at_ 16384 (by decide) (by decide) hl
 obtain ⟨e1,he1⟩:∃ e1,nextV l at_ 16384=e1:=⟨_,rfl⟩
 rw [he1,ha1] at n1
 refine Wq<|qW 1 2 rfl<|qA rfl<|Nl<|Wq<|qW 6 15 rfl<|Od rfl rfl (Bs rfl ty86 (.cons rfl rfl rfl rfl (Sl rfl) (.cons rfl rfl rfl rfl (Sl rfl) (.cons rfl rfl rfl rfl (Sl rfl) .nil))))<|Od rfl rfl (Bs rfl ty86 (.cons rfl rfl rfl rfl (Sl rfl) (.cons rfl rfl rfl rfl (Sl rfl) (.cons rfl rfl rfl rfl (Sl rfl) .nil))))<|Od rfl rfl (Bs rfl ty86 (.cons rfl rfl rfl rfl (Sl rfl) (.cons rfl rfl rfl rfl (Sl rfl) (.cons rfl rfl rfl rfl (Sl rfl) .nil))))<|Od rfl rfl (Bs rfl ty86 (.cons rfl rfl rfl rfl (Sl rfl) (.cons rfl rfl rfl rfl (Sl rfl) (.cons rfl rfl rfl rfl (Sl rfl) .nil))))<|Od rfl rfl (Bs rfl ty86 (.cons rfl rfl rfl rfl (Sl rfl) (.cons rfl rfl rfl rfl (Sl rfl) (.cons rfl rfl rfl rfl (Sl rfl) .nil))))<|Od rfl rfl (Bs rfl ty86 (.cons rfl rfl rfl rfl (Sl rfl) (.cons rfl rfl rfl rfl (Sl rfl) (.cons rfl rfl rfl rfl (Sl rfl) .nil))))<|Od rfl rfl (Bs rfl ty86 (.cons rfl rfl rfl rfl (Sl rfl) (.cons rfl rfl rfl rfl (Sl rfl) (.cons rfl rfl rfl rfl (Sl rfl) .nil))))<|Od rfl rfl (LO.buildSlice rfl ty49 ty86 (by decide) (by decide) (.cons rfl rfl rfl rfl (Sl rfl) (.cons rfl rfl rfl rfl (Sl rfl) (.cons rfl rfl rfl rfl (Sl rfl) (.cons rfl rfl rfl rfl (Sl rfl) (.cons rfl rfl rfl rfl (Sl rfl) (.cons rfl rfl rfl rfl (Sl rfl) (.cons rfl rfl rfl rfl (Sl rfl) .nil))))))))<|qA rfl<|Nl<|Wq<|qW 19 20 rfl<|qA rfl<|Nl<|Wq<|qW 24 27 rfl<|qM rfl<|Od rfl rfl (C1 (fr:=[]) rfl rfl (n1) fok13 (.own rfl rfl (.cons rfl (.pure rfl) .nil)) rfl rfl rfl (Cn _ _) (by decide) rfl)<|qA rfl<|Nl<|Wq<|Wq<|qW 31 34 rfl<|qM rfl<|Od rfl rfl (LO.len rfl rfl ty49)<|qM rfl<|Nl<|W.name 34 (34 + 1) (t:=4) (sz:=3) rfl (by decide) (by decide)<|Wb<|W.loop_keep (α:=Nat × List AV × Nat) (fun x=>7 - x.1) 3 (fun x=>[(0,.own 0 0),(4,.osl 1 0 x.2.2 3),(18,.osl 2 0 7 3),(20,.base (.int .i64 (x.1:Int)))]) (fun x=>up (up (up mt 0 (some (deckC l a1))) 1 (some (x.2.1))) 2 (some (larL))) (fun x=>(x.1≤7∧x.2.2≤x.1)∧x.2.1.length=x.2.2 * 3∧x.2.1.all AV.pure1=true) (0,(([]:List AV)),0) [(0,0),(1,34),(2,13)] (.cons (t:=5) rfl (by exact .inl rfl) (.cons (t:=19) rfl (by exact .inl rfl) .nil)) (show (0≤7∧0≤0)∧(([]:List AV)).length=0 * 3∧(([]:List AV)).all AV.pure1=true from ⟨⟨by decide,by decide⟩,rfl,rfl⟩) (by decide) ?_ ?_ ?_
 ·exact lC (lI rfl) (lC (lI rfl) (lC (lI rfl) (lC (lR rfl) lN)))
 ·exact aU (kR rfl) (aU (kR rfl) (aU (kR rfl) aM))
 rintro ⟨i,os,n⟩ hIA ihA
 try (dsimp only at hIA)
 try dsimp only [baseT,List.cons_append,List.nil_append]
 obtain ⟨⟨hi,hni⟩,hol,hop⟩:=hIA
 by_cases hc:i < 7
 rotate_left
 ·have g1:decide ((i:Int) < 7)=false:=decide_eq_false (by omega)
  refine Wq<|qW 38 39 rfl<|qK rfl<|Nl<|Wq<|Wo rfl ‹_›<|Wx<|Wq<|qW 79 81 rfl<|qM rfl<|qA rfl<|Nl<|Wy (t:=2) rfl rfl (cells_tk hol) hop<|Wz ⟨.inl rfl,_,(up mt 0 (some (deckC l a1))),(Rc (Rt0 rfl) Rv),(aU rfl aM),?_⟩
  exact ⟨os,n,a1,rfl,rfl⟩
 have g1:decide ((i:Int) < 7)=true:=decide_eq_true (by omega)
 obtain ⟨x,y,z,hxy⟩:=larL_at hc
 have hii:(i:Int) + 1=((i + 1:Nat):Int):=by omega
 refine Wq<|qW 38 39 rfl<|qK rfl<|Nl<|Wq<|Wt rfl ‹_›<|Wu<|Wq<|Wb<|Wq<|qW 43 49 rfl<|qM rfl<|Od rfl rfl (Ia rfl rfl rfl rfl ty49 ty86 (by omega))<|qG rfl ty86 rfl hxy<|qB rfl ty86<|qA rfl<|qS rfl ty86 (Sl rfl) rfl<|Nl<|Wq<|qW 53 60 rfl<|qM rfl<|qM rfl<|Od rfl rfl (LO.mul_in rfl rfl rfl (iW _ (by omega)))<|Od rfl rfl (Ci rfl rfl ty3 ty82 (IntWalk.u64_in _ (by omega)))<|Od rfl rfl (LO.shr rfl rfl rfl (by omega))<|Od rfl rfl (LO.and rfl rfl rfl)<|qE rfl<|Nl ?_
 obtain ⟨B,hB⟩:∃ B,(bitV .and .i64 (e1.fdiv (2 ^ (min (2 * (i:Int)).toNat IntKind.i64.bits))) 3 == 3)=B:=⟨_,rfl⟩
 rw [hB]
 cases B
 ·
  refine Wo rfl (rfl)<|Wu<|qW 73 75 rfl<|qZ rfl (iW _ (by omega))<|qM rfl<|Nl ?_
  rw [hii]
  refine WL.renameL [(0,0),(1,1),(2,2)] 3 (by decide) ?_ ?_ (ihA ((i + 1),os,n) (show 7 - (i + 1) < 7 - i from by omega) (show ((i + 1)≤7∧n≤(i + 1))∧os.length=n * 3∧os.all AV.pure1=true from ⟨⟨by omega,by omega⟩,hol,hop⟩))
  ·exact lC (lI rfl) (lC (lI rfl) (lC (lI rfl) (lC (lR rfl) (lC (lR rfl) (lC (lR rfl) lN)))))
  ·exact aU (kR rfl) (aU (kP rfl ‹_›) (aU (kR rfl) aM))
 ·
  refine Wt rfl (rfl)<|qW 64 69 rfl<|qM rfl<|qG rfl ty86 rfl (Tl rfl)<|Od rfl rfl (LO.buildSlice rfl ty49 ty86 (by decide) (by decide) (.cons rfl rfl rfl rfl (Sl rfl) .nil))<|Od rfl rfl (Lap rfl rfl (Sso rfl rfl (Tl rfl)) rfl (cells_tk hol) ty49 ty49 ty86 (by decide) (by omega) (by omega) (by decide))<|qA rfl<|Nl<|qW 73 75 rfl<|qZ rfl (iW _ (by omega))<|qM rfl<|Nl ?_
  rw [hii]
  have hop2:(os++[AV.base (.int .i64 x),AV.base (.int .i64 y),AV.base (.int .i64 z)]).all AV.pure1=true:=by rw [List.all_append,hop];rfl
  refine WL.renameL [(0,0),(1,67),(2,2)] 3 (by decide) ?_ ?_ (ihA ((i + 1),(os++[AV.base (.int .i64 x),AV.base (.int .i64 y),AV.base (.int .i64 z)]),(n + 1)) (show 7 - (i + 1) < 7 - i from by omega) (show ((i + 1)≤7∧(n + 1)≤(i + 1))∧(os++[AV.base (.int .i64 x),AV.base (.int .i64 y),AV.base (.int .i64 z)]).length=(n + 1) * 3∧(os++[AV.base (.int .i64 x),AV.base (.int .i64 y),AV.base (.int .i64 z)]).all AV.pure1=true from ⟨⟨by omega,by omega⟩,(by rw [List.length_append,hol];show n * 3 + 3=(n + 1) * 3;omega),hop2⟩))
  ·exact lC (lI rfl) (lC (lI rfl) (lC (lI rfl) (lC (lR rfl) (lC (lR rfl) (lC (lR rfl) lN)))))
  ·exact aU (kR rfl) (aU (kP rfl ‹_›) (aU (kR rfl) aM))
end Go.Proofs.Ythbegdeojkdlbaa
