/-
  The comparison of routes, of both texts; the best of several.
-/
import Derived.Test.YthbegdeojkdlbaaCe
import Derived.Test.YthbegdeojkdlbaaMab
namespace Go.Proofs.Ythbegdeojkdlbaa
open Go.RowKit
def fnz:List Int→Int→Int × Int
 | [],_=>(0,0)
 | o::l,i=>if o=0 then fnz l (i + 1) else (o,i + 1)
def medF (m:Int):Int:=if m < 0 then 0 else m
def ords (p:Po) (a b:Rt):List Int:=[sgn3 (valP p.pr b.from_) (valP p.pr a.from_),sgn3 (lenP a.a.path) (lenP b.a.path),sgn3 (orgF a.a.org) (orgF b.a.org),sgn3 (medF a.a.med) (medF b.a.med),sgn3 a.from_ b.from_]
def cmpF (p:Po) (a b:Rt):Int × Int:=fnz (ords p a b) 0
def cmpV (r:Int × Int):AV:=.tup [.base (.int .i64 r.1),.base (.int .i64 r.2)]
def OkR (r:Rt):Prop:=r.a.path.length≤10∧(∀ s∈r.a.path,s.2.length≤10)∧-1≤r.a.med
theorem sgn3_neg (a b:Int):sgn3 (-a) (-b)=sgn3 b a:=by
 unfold sgn3
 by_cases h1:b < a
 ·rw [if_pos (by omega),if_pos h1]
 ·rw [if_neg (by omega),if_neg h1]
  by_cases h2:a < b
  ·rw [if_pos (by omega),if_pos h2]
  ·rw [if_neg (by omega),if_neg h2]
def ordC (o:List Int):List AV:=[.base (.int .i64 1),.base (.int .i64 (o.getD 0 0)),.base (.int .i64 2),.base (.int .i64 (o.getD 1 0)),.base (.int .i64 3),.base (.int .i64 (o.getD 2 0)),.base (.int .i64 4),.base (.int .i64 (o.getD 3 0)),.base (.int .i64 5),.base (.int .i64 (o.getD 4 0))]
theorem ordC_at (o:List Int) {i:Nat} (h:i < 5):Tk (ordC o) (0 + i * 2) 2 [.base (.int .i64 ((i:Int) + 1)),.base (.int .i64 (o.getD i 0))]:=by
 match i,h with
 | 0,_=>exact Tk.lit rfl
 | 1,_=>exact Tk.lit rfl
 | 2,_=>exact Tk.lit rfl
 | 3,_=>exact Tk.lit rfl
 | 4,_=>exact Tk.lit rfl
set_option maxHeartbeats 2000000 in
theorem compare_any (p:Po) (a b:Rt) (hp:p.pr.length≤1000) (ha:OkR a) (hb:OkR b):AFn Try.prog 15 0 [.agg (poC p),.agg (rtC a),.agg (rtC b)] mt (cmpV (cmpF p a b)) mt:=by
 refine AFn.eq Try.func15 rfl rfl (Nat.le_of_ble_eq_true rfl) ?_
 have v1:=value_any p b.from_ hp
 have v2:=value_any p a.from_ hp
 have l1:=length_any a.a.path ha.1 ha.2.1
 have l2:=length_any b.a.path hb.1 hb.2.1
 have o1:=origin_any a.a
 have o2:=origin_any b.a
 have sg:=sign_any
 obtain ⟨o,ho,hol⟩:∃ o,ords p a b=o∧o.length=5:=⟨_,rfl,rfl⟩
 unfold cmpF
 obtain ⟨R,hR⟩:∃ R,fnz (ords p a b) 0=R:=⟨_,rfl⟩
 rw [hR]
 rw [ho] at hR
 obtain ⟨pa,fa,aa⟩:=a
 obtain ⟨pb,fb,ab⟩:=b
 unfold poC at v1 v2 ⊢
 unfold atC at o1 o2
 rw [rt_lit,rt_lit]
 dsimp only at v1 v2 l1 l2 o1 o2 ⊢
 refine Wq<|qW 0 5 rfl<|qC rfl<|qC rfl<|qC rfl<|qA rfl<|qA rfl<|Nl<|Wq<|Wq<|Wd 9 56 (by decide) rfl mixed rfl<|qG rfl ty27 rfl (Tl rfl)<|qF rfl ty54 rfl<|qL rfl ty3 rfl<|qY rfl (v1) fok23 rfl<|qG rfl ty27 rfl (Tl rfl)<|qF rfl ty54 rfl<|qL rfl ty3 rfl<|qY rfl (v2) fok23 rfl<|qY rfl (sg _ _) fok22 rfl<|Od rfl rfl (Bs rfl ty65 (.cons rfl rfl rfl rfl (Sl rfl) (.cons rfl rfl rfl rfl (Sl rfl) .nil)))<|qF rfl ty54 rfl<|qF rfl ty52 rfl<|qL rfl ty47 rfl<|qY rfl (l1) fok24 rfl<|qF rfl ty54 rfl<|qF rfl ty52 rfl<|qL rfl ty47 rfl<|qY rfl (l2) fok24 rfl<|qY rfl (sg _ _) fok22 rfl<|Od rfl rfl (Bs rfl ty65 (.cons rfl rfl rfl rfl (Sl rfl) (.cons rfl rfl rfl rfl (Sl rfl) .nil)))<|qF rfl ty54 rfl<|qG rfl ty52 rfl (Tl rfl)<|qY rfl (o1) fok25 rfl<|qF rfl ty54 rfl<|qG rfl ty52 rfl (Tl rfl)<|qY rfl (o2) fok25 rfl<|qY rfl (sg _ _) fok22 rfl<|Od rfl rfl (Bs rfl ty65 (.cons rfl rfl rfl rfl (Sl rfl) (.cons rfl rfl rfl rfl (Sl rfl) .nil)))<|qF rfl ty54 rfl<|qF rfl ty52 rfl<|qL rfl ty3 rfl<|Od rfl rfl (LO.max rfl rfl rfl)<|qF rfl ty54 rfl<|qF rfl ty52 rfl<|qL rfl ty3 rfl<|Od rfl rfl (LO.max rfl rfl rfl)<|qY rfl (sg _ _) fok22 rfl<|Od rfl rfl (Bs rfl ty65 (.cons rfl rfl rfl rfl (Sl rfl) (.cons rfl rfl rfl rfl (Sl rfl) .nil)))<|qF rfl ty54 rfl<|qL rfl ty3 rfl<|qF rfl ty54 rfl<|qL rfl ty3 rfl<|qY rfl (sg _ _) fok22 rfl<|Od rfl rfl (Bs rfl ty65 (.cons rfl rfl rfl rfl (Sl rfl) (.cons rfl rfl rfl rfl (Sl rfl) .nil)))<|Od rfl rfl (LO.buildSlice rfl ty68 ty65 (by decide) (by decide) (.cons rfl rfl rfl rfl (Sl rfl) (.cons rfl rfl rfl rfl (Sl rfl) (.cons rfl rfl rfl rfl (Sl rfl) (.cons rfl rfl rfl rfl (Sl rfl) (.cons rfl rfl rfl rfl (Sl rfl) .nil))))))<|Od rfl rfl (LO.len rfl rfl ty68)<|qM rfl<|Nl ⟨by kernel_rfl,(Wb<|W.loop_keep (α:=Nat) (fun x=>5 - x) 1 (fun x=>[(54,.osl 0 0 5 2),(56,.base (.int .i64 (x:Int)))]) (fun x=>up mt 0 (some (ordC (ords p ⟨pa,fa,aa⟩ ⟨pb,fb,ab⟩)))) (fun x=>x≤5∧fnz (o.drop x) (x:Int)=R) 0 [(0,53)] (.cons (t:=55) rfl (by exact .inl rfl) .nil) (show 0≤5∧fnz (o.drop 0) (0:Int)=R from ⟨Nat.zero_le _,hR⟩) (by decide) ?_ ?_ ?_)⟩
 ·exact lC (lI rfl) (lC (lR rfl) lN)
 ·exact aU (kR rfl) aM
 rintro i hIA ihA
 try (dsimp only at hIA)
 try dsimp only [baseT,List.cons_append,List.nil_append]
 obtain ⟨hi,hr⟩:=hIA
 rw [ho]
 by_cases hc:i < 5
 rotate_left
 ·have g1:decide ((i:Int) < 5)=false:=decide_eq_false (by omega)
  have h0:R=(0,0):=by rw [← hr,List.drop_eq_nil_of_le (by omega)];rfl
  refine Wq<|qW 60 61 rfl<|qK rfl<|Nl<|Wq<|Wo rfl ‹_›<|Wx<|Wq<|qW 96 98 rfl<|qA rfl<|qA rfl<|Nl<|Wz ⟨.inl rfl,_,mt,(Rc (Rt0 rfl) (Rc (Rt0 rfl) Rv)),aM,?_⟩
  exact ⟨by rw [h0];rfl,rfl⟩
 have g1:decide ((i:Int) < 5)=true:=decide_eq_true (by omega)
 have hii:(i:Int) + 1=((i + 1:Nat):Int):=by omega
 have hx:=ordC_at o hc
 have hd:o.drop i=o.getD i 0::o.drop (i + 1):=by rw [List.drop_eq_getElem_cons (by omega)];simp [List.getD,show i < o.length by omega]
 obtain ⟨x,hxe⟩:∃ x,o.getD i 0=x:=⟨_,rfl⟩
 rw [hxe] at hx hd
 rw [hd] at hr
 unfold fnz at hr
 refine Wq<|qW 60 61 rfl<|qK rfl<|Nl<|Wq<|Wt rfl ‹_›<|Wu<|Wq<|Wb<|Wq<|qW 65 69 rfl<|Od rfl rfl (Ia rfl rfl rfl rfl ty68 ty65 (by omega))<|qG rfl ty65 rfl hx<|qB rfl ty65<|qS rfl ty65 (Sl rfl) rfl<|Nl<|Wq<|qW 73 76 rfl<|qF rfl ty65 rfl<|qL rfl ty3 rfl<|qN rfl<|Nl ?_
 by_cases hf:x=0
 ·have g2:(x != 0)=false:=by simpa using hf
  rw [if_pos hf,hii] at hr
  refine Wo rfl ‹_›<|Wu<|qW 90 92 rfl<|qZ rfl (iW _ (by omega))<|qM rfl<|Nl ?_
  rw [hii]
  rw [← ho]
  refine WL.renameL [(0,0)] 1 (by decide) ?_ ?_ (ihA (i + 1) (show 5 - (i + 1) < 5 - i from by omega) (show (i + 1)≤5∧fnz (o.drop (i + 1)) ((i + 1):Int)=R from ⟨by omega,hr⟩))
  ·exact lC (lI rfl) (lC (lR rfl) (lC (lR rfl) lN))
  ·exact aU (kR rfl) aM
 ·have g2:(x != 0)=true:=by simpa using hf
  rw [if_neg hf] at hr
  refine Wt rfl ‹_›<|Wq<|Wd 80 86 (by decide) rfl mixed rfl<|qF rfl ty65 rfl<|qL rfl ty3 rfl<|qF rfl ty65 rfl<|qL rfl ty3 rfl<|qA rfl<|qA rfl<|Nl ⟨by kernel_rfl,(Wz ⟨.inl rfl,_,mt,(Rc (Rt0 rfl) (Rc (Rt0 rfl) Rv)),aM,?_⟩)⟩
  exact ⟨by rw [← hr];rfl,rfl⟩
def keyL (p:Po) (r:Rt):List Int:=[-valP p.pr r.from_,lenP r.a.path,orgF r.a.org,medF r.a.med,r.from_]
set_option maxHeartbeats 2000000 in
theorem key_any (p:Po) (r:Rt) (hp:p.pr.length≤1000) (hp2:∀ x∈p.pr,-10≤x.2∧x.2≤10) (ha:OkR r):AFn Try.prog 26 0 [.agg (poC p),.agg (rtC r)] mt (.agg (intsC (keyL p r))) mt:=by
 refine AFn.eq Try.func26 rfl rfl (Nat.le_of_ble_eq_true rfl) ?_
 have v1:=valueX_any p r.from_ hp
 have vb:=valP_bd (f:=r.from_) hp2
 have l1:=lengthX_any r.a.path ha.1 ha.2.1
 obtain ⟨V,hV⟩:∃ V,valP p.pr r.from_=V:=⟨_,rfl⟩
 rw [hV] at v1 vb
 have hm:=ha.2.2
 have hk:keyL p r=[-V,lenP r.a.path,orgF r.a.org,medF r.a.med,r.from_]:=by unfold keyL;rw [hV]
 rw [hk]
 obtain ⟨pa,fa,aa⟩:=r
 unfold poC at v1 ⊢
 rw [rt_lit]
 dsimp only at v1 l1 hm ⊢
 have hwn:IntKind.i64.wrap (0 - V)=-V:=by rw [Int.zero_sub];exact IntWalk.i64_in _ (by omega)
 have ho:((aa.org == -1)=true∧orgF aa.org=3)∨((aa.org == -1)=false∧orgF aa.org=aa.org):=by
  unfold orgF
  by_cases c:aa.org=-1
  ·exact .inl ⟨by simpa using c,if_pos c⟩
  ·exact .inr ⟨by simpa using c,if_neg c⟩
 have hmm:((aa.med == -1)=true∧medF aa.med=0)∨((aa.med == -1)=false∧medF aa.med=aa.med):=by
  unfold medF
  by_cases c:aa.med=-1
  ·exact .inl ⟨by simpa using c,if_pos (by omega)⟩
  ·exact .inr ⟨by simpa using c,if_neg (by omega)⟩
 rcases ho with ⟨c1,d1⟩|⟨c1,d1⟩
 all_goals
  rcases hmm with ⟨c2,d2⟩|⟨c2,d2⟩
 case' inl.inl =>
  refine Wq<|qW 0 3 rfl<|qC rfl<|qC rfl<|qB rfl ty69<|Nl<|Wq<|qW 7 11 rfl<|qF rfl ty54 rfl<|qG rfl ty52 rfl (Tl rfl)<|qB rfl ty52<|qS rfl ty52 (Sl rfl) rfl<|Nl<|Wq<|Wd 15 21 (by decide) rfl mixed rfl<|qF rfl ty52 rfl<|qL rfl ty3 rfl<|qF rfl ty52 rfl<|qL rfl ty3 rfl<|qA rfl<|qA rfl<|Nl ⟨by kernel_rfl,(Wq<|Wq<|qW 25 27 rfl<|qM rfl<|qE rfl<|Nl<|Wt rfl ‹_›<|qW 31 32 rfl<|qA rfl<|Nl<|Wq<|Wq<|qW 36 38 rfl<|qM rfl<|qE rfl<|Nl<|Wt rfl ‹_›<|qW 42 43 rfl<|qA rfl<|Nl ?_)⟩
 case' inl.inr =>
  refine Wq<|qW 0 3 rfl<|qC rfl<|qC rfl<|qB rfl ty69<|Nl<|Wq<|qW 7 11 rfl<|qF rfl ty54 rfl<|qG rfl ty52 rfl (Tl rfl)<|qB rfl ty52<|qS rfl ty52 (Sl rfl) rfl<|Nl<|Wq<|Wd 15 21 (by decide) rfl mixed rfl<|qF rfl ty52 rfl<|qL rfl ty3 rfl<|qF rfl ty52 rfl<|qL rfl ty3 rfl<|qA rfl<|qA rfl<|Nl ⟨by kernel_rfl,(Wq<|Wq<|qW 25 27 rfl<|qM rfl<|qE rfl<|Nl<|Wt rfl ‹_›<|qW 31 32 rfl<|qA rfl<|Nl<|Wq<|Wq<|qW 36 38 rfl<|qM rfl<|qE rfl<|Nl<|Wo rfl ‹_›<|Wu ?_)⟩
 case' inr.inl =>
  refine Wq<|qW 0 3 rfl<|qC rfl<|qC rfl<|qB rfl ty69<|Nl<|Wq<|qW 7 11 rfl<|qF rfl ty54 rfl<|qG rfl ty52 rfl (Tl rfl)<|qB rfl ty52<|qS rfl ty52 (Sl rfl) rfl<|Nl<|Wq<|Wd 15 21 (by decide) rfl mixed rfl<|qF rfl ty52 rfl<|qL rfl ty3 rfl<|qF rfl ty52 rfl<|qL rfl ty3 rfl<|qA rfl<|qA rfl<|Nl ⟨by kernel_rfl,(Wq<|Wq<|qW 25 27 rfl<|qM rfl<|qE rfl<|Nl<|Wo rfl ‹_›<|Wu<|Wq<|Wq<|qW 36 38 rfl<|qM rfl<|qE rfl<|Nl<|Wt rfl ‹_›<|qW 42 43 rfl<|qA rfl<|Nl ?_)⟩
 case' inr.inr =>
  refine Wq<|qW 0 3 rfl<|qC rfl<|qC rfl<|qB rfl ty69<|Nl<|Wq<|qW 7 11 rfl<|qF rfl ty54 rfl<|qG rfl ty52 rfl (Tl rfl)<|qB rfl ty52<|qS rfl ty52 (Sl rfl) rfl<|Nl<|Wq<|Wd 15 21 (by decide) rfl mixed rfl<|qF rfl ty52 rfl<|qL rfl ty3 rfl<|qF rfl ty52 rfl<|qL rfl ty3 rfl<|qA rfl<|qA rfl<|Nl ⟨by kernel_rfl,(Wq<|Wq<|qW 25 27 rfl<|qM rfl<|qE rfl<|Nl<|Wo rfl ‹_›<|Wu<|Wq<|Wq<|qW 36 38 rfl<|qM rfl<|qE rfl<|Nl<|Wo rfl ‹_›<|Wu ?_)⟩
 all_goals
  repeat (refine Wq ?_)
  refine Wd 47 61 (by decide) rfl mixed rfl<|qG rfl ty27 rfl (Tl rfl)<|qF rfl ty54 rfl<|qL rfl ty3 rfl<|qY rfl (v1) fok33 rfl<|Od rfl rfl (LO.neg_in rfl rfl hwn)<|qF rfl ty52 rfl<|qL rfl ty47 rfl<|qY rfl (l1) fok34 rfl<|qM rfl<|qM rfl<|qF rfl ty54 rfl<|qL rfl ty3 rfl<|Od rfl rfl (LO.build_ar rfl ty69 ty3 (.cons rfl rfl rfl rfl (Sl rfl) (.cons rfl rfl rfl rfl (Sl rfl) (.cons rfl rfl rfl rfl (Sl rfl) (.cons rfl rfl rfl rfl (Sl rfl) (.cons rfl rfl rfl rfl (Sl rfl) .nil))))))<|qS rfl ty69 (Sl rfl) rfl<|Nl ⟨by kernel_rfl,(Wz ⟨.inl rfl,_,mt,(Rc (Ra0 rfl rfl ty69 rfl (Tl rfl)) Rv),aM,?_⟩)⟩
  exact ⟨by rw [d1,d2];rfl,rfl⟩
theorem ords_key (p:Po) (a b:Rt):ords p a b=List.zipWith sgn3 (keyL p a) (keyL p b):=by
 unfold ords keyL
 simp only [List.zipWith,sgn3_neg]
end Go.Proofs.Ythbegdeojkdlbaa
