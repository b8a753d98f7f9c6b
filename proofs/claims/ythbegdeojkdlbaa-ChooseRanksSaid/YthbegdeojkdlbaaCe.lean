/-
  Preferences, lengths, and the comparison of routes, of both texts.
-/
import Derived.Test.YthbegdeojkdlbaaCd
import Derived.Test.YthbegdeojkdlbaaMab
namespace Go.Proofs.Ythbegdeojkdlbaa
open Go.RowKit
def valP:List (Int × Int)→Int→Int
 | [],_=>0
 | x::l,f=>if x.1=f then x.2 else valP l f
theorem valP_bd {l:List (Int × Int)} {f:Int} (h:∀ x∈l,-10≤x.2∧x.2≤10):-10≤valP l f∧valP l f≤10:=by
 induction l with
 | nil=>show (-10:Int)≤0∧(0:Int)≤10;exact ⟨by decide,by decide⟩
 | cons a l ih =>
  unfold valP
  split
  ·exact h a (List.mem_cons_self ..)
  ·exact ih fun x hx=>h x (List.mem_cons_of_mem _ hx)
def segN (s:Bool × List Int):Int:=if s.1 then 1 else (s.2.length:Int)
def lenP:List (Bool × List Int)→Int
 | []=>0
 | s::l=>segN s + lenP l
theorem segs_at {l:List (Bool × List Int)} {i:Nat} (h:i < l.length):Tk (segsC l) (0 + i * 2) 2 (segC l[i]):=by
 induction l generalizing i with
 | nil=>exact absurd h (by simp)
 | cons a p ih =>
  refine ⟨rfl,fun j c hj=>?_⟩
  have hj16:j < 2:=by have:=(List.getElem?_eq_some_iff.1 hj).1;exact this
  have hl:(segC a).length=2:=rfl
  show (segsC (a::p))[0 + i * 2 + j]?=some c
  rw [show segsC (a::p)=segC a++segsC p from rfl]
  cases i with
  | zero =>
   rw [List.getElem?_append_left (by omega),show 0 + 0 * 2 + j=j from by omega]
   exact hj
  | succ i =>
   rw [List.getElem?_append_right (by omega),hl,show 0 + (i + 1) * 2 + j - 2=0 + i * 2 + j from by omega]
   exact (ih (i:=i) (by simpa using h)).2 j c hj
set_option maxHeartbeats 1000000 in
theorem value_any (p:Po) (f:Int) (hpl:p.pr.length≤1000):AFn Try.prog 23 0 [.agg (poC p),.base (.int .i64 f)] mt (.base (.int .i64 (valP p.pr f))) mt:=by
 refine AFn.eq Try.func23 rfl rfl (Nat.le_of_ble_eq_true rfl) ?_
 obtain ⟨R,hR⟩:∃ R,valP p.pr f=R:=⟨_,rfl⟩
 rw [hR]
 unfold poC
 refine Wq<|qW 0 2 rfl<|qC rfl<|qA rfl<|Nl<|Wq<|Wq<|qW 6 10 rfl<|qF rfl ty27 rfl<|qL rfl ty25 rfl<|qH rfl ty25<|qM rfl<|Nl<|Wb<|W.loop_keep (α:=Nat) (fun x=>p.pr.length - x) 0 (fun x=>[(10,.base (.int .i64 (x:Int)))]) (fun x=>mt) (fun x=>x≤p.pr.length∧valP (p.pr.drop x) f=R) 0 [] (.cons (t:=1) rfl (by exact .inl rfl) (.cons (t:=8) rfl (by exact .inl rfl) (.cons (t:=9) rfl (by exact .inl rfl) .nil))) (show 0≤p.pr.length∧valP (p.pr.drop 0) f=R from ⟨Nat.zero_le _,hR⟩) (by decide) ?_ ?_ ?_
 ·exact lC (lR rfl) lN
 ·exact aM
 rintro i hIA ihA
 try (dsimp only at hIA)
 try dsimp only [baseT,List.cons_append,List.nil_append]
 obtain ⟨hi,hr⟩:=hIA
 by_cases hc:i < p.pr.length
 rotate_left
 ·have g1:decide ((i:Int) < (p.pr.length:Int))=false:=decide_eq_false (by omega)
  have h0:R=0:=by rw [← hr,List.drop_eq_nil_of_le (by omega)];rfl
  refine Wq<|qW 14 15 rfl<|qK rfl<|Nl<|Wq<|Wo rfl ‹_›<|Wx<|Wq<|qW 48 49 rfl<|qA rfl<|Nl<|Wz ⟨.inl rfl,_,mt,Rc (Rt0 rfl) (Rv),aM,?_⟩
  exact ⟨by rw [h0];rfl,rfl⟩
 have g1:decide ((i:Int) < (p.pr.length:Int))=true:=decide_eq_true (by omega)
 have hii:(i:Int) + 1=((i + 1:Nat):Int):=by omega
 have hd:p.pr.drop i=p.pr[i]::p.pr.drop (i + 1):=List.drop_eq_getElem_cons hc
 have hx:=prs_at hc
 obtain ⟨x,hxe⟩:∃ x,p.pr[i]=x:=⟨_,rfl⟩
 rw [hxe] at hx hd
 rw [hd] at hr
 unfold valP at hr
 refine Wq<|qW 14 15 rfl<|qK rfl<|Nl<|Wq<|Wt rfl ‹_›<|Wu<|Wq<|Wb ?_
 unfold prC at hx
 rw [Nat.zero_add] at hx
 refine Wq<|qW 19 23 rfl<|qJ rfl rfl ty25 ty41 (by omega)<|Od rfl rfl (Lg rfl rfl ty41 rfl hx)<|qB rfl ty41<|qS rfl ty41 (Sl rfl) rfl<|Nl<|Wq<|qW 27 31 rfl<|qF rfl ty41 rfl<|qL rfl ty3 rfl<|qM rfl<|qE rfl<|Nl ?_
 by_cases hf:x.1=f
 ·have g2:(x.1 == f)=true:=by simpa using hf
  rw [if_pos hf] at hr
  refine Wt rfl ‹_›<|Wq<|qW 35 38 rfl<|qF rfl ty41 rfl<|qL rfl ty3 rfl<|qA rfl<|Nl<|Wz ⟨.inl rfl,_,mt,Rc (Rt0 rfl) (Rv),aM,?_⟩
  exact ⟨by rw [← hr];rfl,rfl⟩
 ·have g2:(x.1 == f)=false:=by simpa using hf
  rw [if_neg hf] at hr
  refine Wo rfl ‹_›<|Wu<|qW 42 44 rfl<|qZ rfl (iW _ (by omega))<|qM rfl<|Nl ?_
  rw [hii]
  refine WL.renameL [] 0 (by decide) ?_ ?_ (ihA (i + 1) (show p.pr.length - (i + 1) < p.pr.length - i from by omega) (show (i + 1)≤p.pr.length∧valP (p.pr.drop (i + 1)) f=R from ⟨by omega,hr⟩))
  ·exact lC (lR rfl) (lC (lR rfl) (lC (lR rfl) (lC (lR rfl) lN)))
  ·exact aM
set_option maxHeartbeats 1000000 in
theorem valueX_any (p:Po) (f:Int) (hpl:p.pr.length≤1000):AFn Try.prog 33 0 [.agg (poC p),.base (.int .i64 f)] mt (.base (.int .i64 (valP p.pr f))) mt:=by
 refine AFn.eq Try.func33 rfl rfl (Nat.le_of_ble_eq_true rfl) ?_
 obtain ⟨R,hR⟩:∃ R,valP p.pr f=R:=⟨_,rfl⟩
 rw [hR]
 unfold poC
 refine Wq<|qW 0 2 rfl<|qC rfl<|qA rfl<|Nl<|Wq<|Wq<|qW 6 10 rfl<|qF rfl ty27 rfl<|qL rfl ty25 rfl<|qH rfl ty25<|qM rfl<|Nl<|Wb<|W.loop_keep (α:=Nat) (fun x=>p.pr.length - x) 0 (fun x=>[(10,.base (.int .i64 (x:Int)))]) (fun x=>mt) (fun x=>x≤p.pr.length∧valP (p.pr.drop x) f=R) 0 [] (.cons (t:=1) rfl (by exact .inl rfl) (.cons (t:=8) rfl (by exact .inl rfl) (.cons (t:=9) rfl (by exact .inl rfl) .nil))) (show 0≤p.pr.length∧valP (p.pr.drop 0) f=R from ⟨Nat.zero_le _,hR⟩) (by decide) ?_ ?_ ?_
 ·exact lC (lR rfl) lN
 ·exact aM
 rintro i hIA ihA
 try (dsimp only at hIA)
 try dsimp only [baseT,List.cons_append,List.nil_append]
 obtain ⟨hi,hr⟩:=hIA
 by_cases hc:i < p.pr.length
 rotate_left
 ·have g1:decide ((i:Int) < (p.pr.length:Int))=false:=decide_eq_false (by omega)
  have h0:R=0:=by rw [← hr,List.drop_eq_nil_of_le (by omega)];rfl
  refine Wq<|qW 14 15 rfl<|qK rfl<|Nl<|Wq<|Wo rfl ‹_›<|Wx<|Wq<|qW 48 49 rfl<|qA rfl<|Nl<|Wz ⟨.inl rfl,_,mt,Rc (Rt0 rfl) (Rv),aM,?_⟩
  exact ⟨by rw [h0];rfl,rfl⟩
 have g1:decide ((i:Int) < (p.pr.length:Int))=true:=decide_eq_true (by omega)
 have hii:(i:Int) + 1=((i + 1:Nat):Int):=by omega
 have hd:p.pr.drop i=p.pr[i]::p.pr.drop (i + 1):=List.drop_eq_getElem_cons hc
 have hx:=prs_at hc
 obtain ⟨x,hxe⟩:∃ x,p.pr[i]=x:=⟨_,rfl⟩
 rw [hxe] at hx hd
 rw [hd] at hr
 unfold valP at hr
 refine Wq<|qW 14 15 rfl<|qK rfl<|Nl<|Wq<|Wt rfl ‹_›<|Wu<|Wq<|Wb ?_
 unfold prC at hx
 rw [Nat.zero_add] at hx
 refine Wq<|qW 19 23 rfl<|qJ rfl rfl ty25 ty41 (by omega)<|Od rfl rfl (Lg rfl rfl ty41 rfl hx)<|qB rfl ty41<|qS rfl ty41 (Sl rfl) rfl<|Nl<|Wq<|qW 27 31 rfl<|qF rfl ty41 rfl<|qL rfl ty3 rfl<|qM rfl<|qE rfl<|Nl ?_
 by_cases hf:x.1=f
 ·have g2:(x.1 == f)=true:=by simpa using hf
  rw [if_pos hf] at hr
  refine Wt rfl ‹_›<|Wq<|qW 35 38 rfl<|qF rfl ty41 rfl<|qL rfl ty3 rfl<|qA rfl<|Nl<|Wz ⟨.inl rfl,_,mt,Rc (Rt0 rfl) (Rv),aM,?_⟩
  exact ⟨by rw [← hr];rfl,rfl⟩
 ·have g2:(x.1 == f)=false:=by simpa using hf
  rw [if_neg hf] at hr
  refine Wo rfl ‹_›<|Wu<|qW 42 44 rfl<|qZ rfl (iW _ (by omega))<|qM rfl<|Nl ?_
  rw [hii]
  refine WL.renameL [] 0 (by decide) ?_ ?_ (ihA (i + 1) (show p.pr.length - (i + 1) < p.pr.length - i from by omega) (show (i + 1)≤p.pr.length∧valP (p.pr.drop (i + 1)) f=R from ⟨by omega,hr⟩))
  ·exact lC (lR rfl) (lC (lR rfl) (lC (lR rfl) (lC (lR rfl) lN)))
  ·exact aM
set_option maxHeartbeats 1000000 in
theorem length_any (p:List (Bool × List Int)) (h1:p.length≤10) (h2:∀ s∈p,s.2.length≤10):AFn Try.prog 24 0 [.isl (segsC p) p.length] mt (.base (.int .i64 (lenP p))) mt:=by
 refine AFn.eq Try.func24 rfl rfl (Nat.le_of_ble_eq_true rfl) ?_
 obtain ⟨R,hR⟩:∃ R,lenP p=R:=⟨_,rfl⟩
 rw [hR]
 refine Wq<|qW 0 1 rfl<|qA rfl<|Nl<|Wq<|qW 5 6 rfl<|qA rfl<|Nl<|Wq<|Wq<|qW 10 13 rfl<|qM rfl<|qH rfl ty47<|qM rfl<|Nl<|Wb<|W.loop_keep (α:=Nat × Int) (fun x=>p.length - x.1) 0 (fun x=>[(3,.base (.int .i64 x.2)),(8,.base (.int .i64 (x.1:Int)))]) (fun x=>mt) (fun x=>x.1≤p.length∧(0≤x.2∧x.2≤10 * x.1)∧x.2 + lenP (p.drop x.1)=R) (0,0) [] (.cons (t:=6) rfl (by exact .inl rfl) (.cons (t:=7) rfl (by exact .inl rfl) .nil)) (show 0≤p.length∧(0≤0∧0≤10 * 0)∧0 + lenP (p.drop 0)=R from ⟨Nat.zero_le _,⟨by decide,by decide⟩,by rw [← hR];show 0 + lenP p=lenP p;omega⟩) (by decide) ?_ ?_ ?_
 ·exact lC (lR rfl) (lC (lR rfl) lN)
 ·exact aM
 rintro ⟨i,n⟩ hIA ihA
 try (dsimp only at hIA)
 try dsimp only [baseT,List.cons_append,List.nil_append]
 obtain ⟨hi,hn,hr⟩:=hIA
 by_cases hc:i < p.length
 rotate_left
 ·have g1:decide ((i:Int) < (p.length:Int))=false:=decide_eq_false (by omega)
  have h0:R=n:=by rw [← hr,List.drop_eq_nil_of_le (by omega)];show n + 0=n;omega
  refine Wq<|qW 17 18 rfl<|qK rfl<|Nl<|Wq<|Wo rfl ‹_›<|Wx<|Wq<|qW 59 61 rfl<|qM rfl<|qA rfl<|Nl<|Wz ⟨.inl rfl,_,mt,Rc (Rt0 rfl) (Rv),aM,?_⟩
  exact ⟨by rw [h0];rfl,rfl⟩
 have g1:decide ((i:Int) < (p.length:Int))=true:=decide_eq_true (by omega)
 have hii:(i:Int) + 1=((i + 1:Nat):Int):=by omega
 have hd:p.drop i=p[i]::p.drop (i + 1):=List.drop_eq_getElem_cons hc
 have hx:=segs_at hc
 have hlx:=h2 p[i] (List.getElem_mem hc)
 obtain ⟨x,hxe⟩:∃ x,p[i]=x:=⟨_,rfl⟩
 rw [hxe] at hx hd hlx
 rw [hd] at hr
 unfold lenP segN at hr
 refine Wq<|qW 17 18 rfl<|qK rfl<|Nl<|Wq<|Wt rfl ‹_›<|Wu<|Wq<|Wb ?_
 unfold segC at hx
 rw [Nat.zero_add] at hx
 refine Wq<|qW 22 26 rfl<|qJ rfl rfl ty47 ty61 (by omega)<|Od rfl rfl (Lg rfl rfl ty61 rfl hx)<|qB rfl ty61<|qS rfl ty61 (Sl rfl) rfl<|Nl<|Wq<|qW 30 32 rfl<|qF rfl ty61 rfl<|qL rfl ty4 rfl<|Nl ?_
 cases hb:x.1
 ·
  rw [hb,if_neg (by decide)] at hr
  refine Wo rfl rfl<|qW 43 49 rfl<|qM rfl<|qF rfl ty61 rfl<|qL rfl ty22 rfl<|qH rfl ty22<|qZ rfl (iW _ (by omega))<|qA rfl<|Nl<|qW 53 55 rfl<|qZ rfl (iW _ (by omega))<|qM rfl<|Nl ?_
  rw [hii]
  refine WL.renameL [] 0 (by decide) ?_ ?_ (ihA ((i + 1),((n + (x.2.length:Int)))) (show p.length - (i + 1) < p.length - i from by omega) (show (i + 1)≤p.length∧(0≤((n + (x.2.length:Int)))∧((n + (x.2.length:Int)))≤10 * (i + 1))∧((n + (x.2.length:Int))) + lenP (p.drop (i + 1))=R from ⟨by omega,⟨by omega,by omega⟩,by omega⟩))
  ·exact lC (lR rfl) (lC (lR rfl) (lC (lR rfl) (lC (lR rfl) lN)))
  ·exact aM
 ·
  rw [hb,if_pos rfl] at hr
  refine Wt rfl rfl<|qW 36 39 rfl<|qM rfl<|qZ rfl (iW _ (by omega))<|qA rfl<|Nl<|qW 53 55 rfl<|qZ rfl (iW _ (by omega))<|qM rfl<|Nl ?_
  rw [hii]
  refine WL.renameL [] 0 (by decide) ?_ ?_ (ihA ((i + 1),((n + 1))) (show p.length - (i + 1) < p.length - i from by omega) (show (i + 1)≤p.length∧(0≤((n + 1))∧((n + 1))≤10 * (i + 1))∧((n + 1)) + lenP (p.drop (i + 1))=R from ⟨by omega,⟨by omega,by omega⟩,by omega⟩))
  ·exact lC (lR rfl) (lC (lR rfl) (lC (lR rfl) (lC (lR rfl) lN)))
  ·exact aM
set_option maxHeartbeats 1000000 in
theorem lengthX_any (p:List (Bool × List Int)) (h1:p.length≤10) (h2:∀ s∈p,s.2.length≤10):AFn Try.prog 34 0 [.isl (segsC p) p.length] mt (.base (.int .i64 (lenP p))) mt:=by
 refine AFn.eq Try.func34 rfl rfl (Nat.le_of_ble_eq_true rfl) ?_
 obtain ⟨R,hR⟩:∃ R,lenP p=R:=⟨_,rfl⟩
 rw [hR]
 refine Wq<|qW 0 1 rfl<|qA rfl<|Nl<|Wq<|qW 5 6 rfl<|qA rfl<|Nl<|Wq<|Wq<|qW 10 13 rfl<|qM rfl<|qH rfl ty47<|qM rfl<|Nl<|Wb<|W.loop_keep (α:=Nat × Int) (fun x=>p.length - x.1) 0 (fun x=>[(3,.base (.int .i64 x.2)),(8,.base (.int .i64 (x.1:Int)))]) (fun x=>mt) (fun x=>x.1≤p.length∧(0≤x.2∧x.2≤10 * x.1)∧x.2 + lenP (p.drop x.1)=R) (0,0) [] (.cons (t:=6) rfl (by exact .inl rfl) (.cons (t:=7) rfl (by exact .inl rfl) .nil)) (show 0≤p.length∧(0≤0∧0≤10 * 0)∧0 + lenP (p.drop 0)=R from ⟨Nat.zero_le _,⟨by decide,by decide⟩,by rw [← hR];show 0 + lenP p=lenP p;omega⟩) (by decide) ?_ ?_ ?_
 ·exact lC (lR rfl) (lC (lR rfl) lN)
 ·exact aM
 rintro ⟨i,n⟩ hIA ihA
 try (dsimp only at hIA)
 try dsimp only [baseT,List.cons_append,List.nil_append]
 obtain ⟨hi,hn,hr⟩:=hIA
 by_cases hc:i < p.length
 rotate_left
 ·have g1:decide ((i:Int) < (p.length:Int))=false:=decide_eq_false (by omega)
  have h0:R=n:=by rw [← hr,List.drop_eq_nil_of_le (by omega)];show n + 0=n;omega
  refine Wq<|qW 17 18 rfl<|qK rfl<|Nl<|Wq<|Wo rfl ‹_›<|Wx<|Wq<|qW 59 61 rfl<|qM rfl<|qA rfl<|Nl<|Wz ⟨.inl rfl,_,mt,Rc (Rt0 rfl) (Rv),aM,?_⟩
  exact ⟨by rw [h0];rfl,rfl⟩
 have g1:decide ((i:Int) < (p.length:Int))=true:=decide_eq_true (by omega)
 have hii:(i:Int) + 1=((i + 1:Nat):Int):=by omega
 have hd:p.drop i=p[i]::p.drop (i + 1):=List.drop_eq_getElem_cons hc
 have hx:=segs_at hc
 have hlx:=h2 p[i] (List.getElem_mem hc)
 obtain ⟨x,hxe⟩:∃ x,p[i]=x:=⟨_,rfl⟩
 rw [hxe] at hx hd hlx
 rw [hd] at hr
 unfold lenP segN at hr
 refine Wq<|qW 17 18 rfl<|qK rfl<|Nl<|Wq<|Wt rfl ‹_›<|Wu<|Wq<|Wb ?_
 unfold segC at hx
 rw [Nat.zero_add] at hx
 refine Wq<|qW 22 26 rfl<|qJ rfl rfl ty47 ty61 (by omega)<|Od rfl rfl (Lg rfl rfl ty61 rfl hx)<|qB rfl ty61<|qS rfl ty61 (Sl rfl) rfl<|Nl<|Wq<|qW 30 32 rfl<|qF rfl ty61 rfl<|qL rfl ty4 rfl<|Nl ?_
 cases hb:x.1
 ·
  rw [hb,if_neg (by decide)] at hr
  refine Wo rfl rfl<|qW 43 49 rfl<|qM rfl<|qF rfl ty61 rfl<|qL rfl ty22 rfl<|qH rfl ty22<|qZ rfl (iW _ (by omega))<|qA rfl<|Nl<|qW 53 55 rfl<|qZ rfl (iW _ (by omega))<|qM rfl<|Nl ?_
  rw [hii]
  refine WL.renameL [] 0 (by decide) ?_ ?_ (ihA ((i + 1),((n + (x.2.length:Int)))) (show p.length - (i + 1) < p.length - i from by omega) (show (i + 1)≤p.length∧(0≤((n + (x.2.length:Int)))∧((n + (x.2.length:Int)))≤10 * (i + 1))∧((n + (x.2.length:Int))) + lenP (p.drop (i + 1))=R from ⟨by omega,⟨by omega,by omega⟩,by omega⟩))
  ·exact lC (lR rfl) (lC (lR rfl) (lC (lR rfl) (lC (lR rfl) lN)))
  ·exact aM
 ·
  rw [hb,if_pos rfl] at hr
  refine Wt rfl rfl<|qW 36 39 rfl<|qM rfl<|qZ rfl (iW _ (by omega))<|qA rfl<|Nl<|qW 53 55 rfl<|qZ rfl (iW _ (by omega))<|qM rfl<|Nl ?_
  rw [hii]
  refine WL.renameL [] 0 (by decide) ?_ ?_ (ihA ((i + 1),((n + 1))) (show p.length - (i + 1) < p.length - i from by omega) (show (i + 1)≤p.length∧(0≤((n + 1))∧((n + 1))≤10 * (i + 1))∧((n + 1)) + lenP (p.drop (i + 1))=R from ⟨by omega,⟨by omega,by omega⟩,by omega⟩))
  ·exact lC (lR rfl) (lC (lR rfl) (lC (lR rfl) (lC (lR rfl) lN)))
  ·exact aM
def sgn3 (a b:Int):Int:=if a < b then -1 else if b < a then 1 else 0
theorem sign_any (a b:Int):AFn Try.prog 22 0 [.base (.int .i64 a),.base (.int .i64 b)] mt (.base (.int .i64 (sgn3 a b))) mt:=by
 refine AFn.eq Try.func22 rfl rfl (Nat.le_of_ble_eq_true rfl)<|Wq<|qW 0 1 rfl<|qA rfl<|Nl<|Wq<|Wb<|Wq<|qW 5 9 rfl<|qM rfl<|qM rfl<|qK rfl<|qA rfl<|Nl<|W.cond rfl (fun hb1=>?_) (fun hb1=>?_)
 ·
  try (have hb1p:=of_decide_eq_true hb1)
  try (have hb1q:=eq_of_beq hb1)
  refine Wq<|qW 13 14 rfl<|qA rfl<|Nl<|Wz ⟨.inl rfl,_,mt,Rc (Rt0 rfl) (Rv),aM,?_⟩
  exact ⟨by (simp_all [sgn3,retOf])<;>omega,rfl⟩
 ·
  try (have hb1p:=of_decide_eq_false hb1)
  try (have hb1q:=ne_of_beq_false hb1)
  refine Wq<|qW 18 22 rfl<|qM rfl<|qM rfl<|qGt rfl<|qA rfl<|Nl<|W.cond rfl (fun hb2=>?_) (fun hb2=>?_)
  ·
   try (have hb2p:=of_decide_eq_true hb2)
   try (have hb2q:=eq_of_beq hb2)
   refine Wq<|qW 26 27 rfl<|qA rfl<|Nl<|Wz ⟨.inl rfl,_,mt,Rc (Rt0 rfl) (Rv),aM,?_⟩
   exact ⟨by (simp_all [sgn3,retOf])<;>omega,rfl⟩
  ·
   try (have hb2p:=of_decide_eq_false hb2)
   try (have hb2q:=ne_of_beq_false hb2)
   refine Wu<|Wq<|qW 31 32 rfl<|qA rfl<|Nl<|Wz ⟨.inl rfl,_,mt,Rc (Rt0 rfl) (Rv),aM,?_⟩
   exact ⟨by (simp_all [sgn3,retOf])<;>omega,rfl⟩
def orgF (o:Int):Int:=if o=-1 then 3 else o
theorem origin_any (a:At):AFn Try.prog 25 0 [.agg (atC a)] mt (.base (.int .i64 (orgF a.org))) mt:=by
 refine AFn.eq Try.func25 rfl rfl (Nat.le_of_ble_eq_true rfl) ?_
 unfold atC
 refine Wq<|qW 0 2 rfl<|qC rfl<|qA rfl<|Nl<|Wq<|Wq<|qW 6 9 rfl<|qF rfl ty52 rfl<|qL rfl ty3 rfl<|qE rfl<|Nl<|W.cond rfl (fun hb3=>?_) (fun hb3=>?_)
 ·
  try (have hb3p:=of_decide_eq_true hb3)
  try (have hb3q:=eq_of_beq hb3)
  refine Wq<|qW 13 14 rfl<|qA rfl<|Nl<|Wz ⟨.inl rfl,_,mt,Rc (Rt0 rfl) (Rv),aM,?_⟩
  exact ⟨by (simp_all [orgF,retOf]),rfl⟩
 ·
  try (have hb3p:=of_decide_eq_false hb3)
  try (have hb3q:=ne_of_beq_false hb3)
  refine Wu<|Wq<|qW 18 21 rfl<|qF rfl ty52 rfl<|qL rfl ty3 rfl<|qA rfl<|Nl<|Wz ⟨.inl rfl,_,mt,Rc (Rt0 rfl) (Rv),aM,?_⟩
  exact ⟨by (simp_all [orgF,retOf]),rfl⟩
end Go.Proofs.Ythbegdeojkdlbaa
