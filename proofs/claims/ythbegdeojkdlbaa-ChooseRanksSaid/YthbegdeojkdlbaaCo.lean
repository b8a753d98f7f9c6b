/-
  The order of all routes: both ranks.
-/
import Derived.Test.YthbegdeojkdlbaaCn
import Derived.Test.YthbegdeojkdlbaaMab
namespace Go.Proofs.Ythbegdeojkdlbaa
open Go.RowKit
set_option maxHeartbeats 1000000 in
theorem stabI_any (p:Po) (l:List Rt) (hp:p.pr.length≤1000) (ho:∀ r∈l,OkR r) (h1:1≤l.length) (h2:l.length < 20):AFn Try.prog 27 1 [.osl 0 0 l.length 1,.base (.int .i64 (l.length:Int)),cloR p l] (up mt 0 (some (natsC (List.range l.length)))) (.tup []) (up mt 0 (some (natsC (isortN (cmpN p l) l.length)))):=by
 refine AFn.eq Try.func27 rfl rfl (Nat.le_of_ble_eq_true rfl) ?_
 have hins:=insI_any p l hp ho h1 (by omega)
 have hn1:natsC (List.range l.length)≠[]:=natsC_ne (by simpa using h1)
 have g1:decide ((20:Int)≤(l.length:Int))=false:=decide_eq_false (by omega)
 have g2:decide ((20:Int) < (l.length:Int))=false:=decide_eq_false (by omega)
 generalize isortN (cmpN p l) l.length=ys at *
 generalize List.range l.length=xs at *
 unfold cloR at hins ⊢
 refine Wq<|qW 1 2 rfl<|qA rfl<|Nl<|Wq<|qW 6 9 rfl<|qM rfl<|qA rfl<|qA rfl<|Nl<|Wq<|Wb<|W.loop_keep (α:=Nat) (fun x=>x) 1 (fun x=>[(0,.osl 0 0 l.length 1),(8,.base (.int .i64 20))]) (fun x=>up mt 0 (some (natsC xs))) (fun x=>x=0) 0 [(0,0)] (.cons (t:=1) rfl (by exact .inl rfl) (.cons (t:=2) rfl (by exact .inl rfl) (.cons (t:=6) rfl (by exact .inl rfl) (.cons (t:=7) rfl (by exact .inl rfl) .nil)))) (show 0=0 from rfl) (by decide) ?_ ?_ ?_
 ·exact lC (lI rfl) (lC (lR rfl) lN)
 ·exact aU (kP rfl (natsC_pure _)) aM
 rintro k hIA ihA
 try (dsimp only at hIA)
 try dsimp only [baseT,List.cons_append,List.nil_append]
 refine Wq<|Wq<|qW 13 16 rfl<|qM rfl<|qM rfl<|qLe rfl<|Nl<|Wo rfl ‹_›<|Wx<|Wq<|qW 43 48 rfl<|qM rfl<|qM rfl<|qM rfl<|qM rfl<|Od rfl rfl (C1 (fr:=[]) rfl rfl hins fok35 (.osl rfl rfl (.cons rfl (.pure rfl) (.cons rfl (.pure rfl) (.cons rfl (.pure rfl) .nil)))) rfl (natsC_pure _) (natsC_pure _) hn1 (by decide) rfl)<|Nl<|Wb<|W.loop_keep (α:=Nat) (fun x=>x) 1 (fun x=>[(6,.base (.int .i64 20))]) (fun x=>up mt 0 (some (natsC ys))) (fun x=>x=0) 0 [(0,0)] (.cons (t:=0) rfl (by exact .inr ⟨rfl,fun _ h=>by cases h⟩) (.cons (t:=1) rfl (by exact .inl rfl) (.cons (t:=2) rfl (by exact .inl rfl) .nil))) (show 0=0 from rfl) (by decide) ?_ ?_ ?_
 ·exact lC (lR rfl) lN
 ·exact aU (kP rfl (natsC_pure _)) aM
 rintro j hIB ihB
 try (dsimp only at hIB)
 try dsimp only [baseT,List.cons_append,List.nil_append]
 refine Wq<|Wq<|qW 52 55 rfl<|qM rfl<|qM rfl<|qK rfl<|Nl<|Wo rfl ‹_›<|Wx ?_
 exact ⟨.inr rfl,_,up mt 0 (some (natsC ys)),RVs.nil,all_up rfl all_mt,rfl,rfl⟩
theorem sortI_any (p:Po) (l:List Rt) (hp:p.pr.length≤1000) (ho:∀ r∈l,OkR r) (h1:1≤l.length) (h2:l.length < 20):AFn Try.prog 17 1 [.osl 0 0 l.length 1,cloR p l] (up mt 0 (some (natsC (List.range l.length)))) (.tup []) (up mt 0 (some (natsC (isortN (cmpN p l) l.length)))):=by
 refine AFn.eq Try.func17 rfl rfl (Nat.le_of_ble_eq_true rfl) ?_
 have hst:=stabI_any p l hp ho h1 h2
 have hn1:natsC (List.range l.length)≠[]:=natsC_ne (by simpa using h1)
 generalize isortN (cmpN p l) l.length=ys at *
 generalize List.range l.length=xs at *
 unfold cloR at hst ⊢
 refine qW 1 6 rfl<|qM rfl<|qM rfl<|Od rfl rfl (LO.len rfl rfl ty22)<|qM rfl<|Od rfl rfl (C1 (fr:=[]) rfl rfl hst fok27 (.osl rfl rfl (.cons rfl (.pure rfl) (.cons rfl (.pure rfl) .nil))) rfl (natsC_pure _) (natsC_pure _) hn1 (by decide) rfl)<|Nl ?_
 exact ⟨.inr rfl,_,up mt 0 (some (natsC ys)),RVs.nil,all_up rfl all_mt,rfl,rfl⟩
theorem insI_none (z:AV) (hz:z.pure=true):AFn Try.prog 35 0 [.isl [] 0,.base (.int .i64 0),.base (.int .i64 0),z] mt (.tup []) mt:=by
 refine AFn.eq Try.func35 rfl rfl (Nat.le_of_ble_eq_true rfl) ?_
 have g1:decide ((1:Int) < 0)=false:=by decide
 refine Wq<|qW 0 3 rfl<|qM rfl<|qZ rfl (iW _ (by omega))<|qA rfl<|Nl ?_
 rw [show (0:Int) + 1=1 from rfl]
 refine Wb<|W.loop_keep (α:=Nat) (fun x=>x) 0 (fun x=>[(8,.base (.int .i64 1))]) (fun x=>mt) (fun x=>x=0) 0 [] (.cons (t:=0) rfl (by exact .inl rfl) (.cons (t:=1) rfl (by exact .inl rfl) (.cons (t:=2) rfl (by exact .inl rfl) (.cons (t:=3) rfl (by (exact .inl (by assumption))) .nil)))) (show 0=0 from rfl) (by decide) ?_ ?_ ?_
 ·exact lC (lR rfl) lN
 ·exact aM
 rintro k hIA ihA
 try (dsimp only at hIA)
 try dsimp only [baseT,List.cons_append,List.nil_append]
 refine Wq<|Wq<|qW 7 10 rfl<|qM rfl<|qM rfl<|qK rfl<|Nl<|Wo rfl rfl<|Wx ?_
 exact ⟨.inr rfl,_,mt,RVs.nil,all_mt,rfl,rfl⟩
theorem stabI_none (z:AV) (hz:z.pure=true):AFn Try.prog 27 0 [.isl [] 0,.base (.int .i64 0),z] mt (.tup []) mt:=by
 refine AFn.eq Try.func27 rfl rfl (Nat.le_of_ble_eq_true rfl) ?_
 have hins:=insI_none z hz
 have g1:decide ((20:Int)≤0)=false:=by decide
 have g2:decide ((20:Int) < 0)=false:=by decide
 refine Wq<|qW 0 1 rfl<|qA rfl<|Nl<|Wq<|qW 5 8 rfl<|qM rfl<|qA rfl<|qA rfl<|Nl<|Wq<|Wb<|W.loop_keep (α:=Nat) (fun x=>x) 0 (fun x=>[(8,.base (.int .i64 20))]) (fun x=>mt) (fun x=>x=0) 0 [] (.cons (t:=0) rfl (by exact .inl rfl) (.cons (t:=1) rfl (by exact .inl rfl) (.cons (t:=2) rfl (by (exact .inl (by assumption))) (.cons (t:=6) rfl (by exact .inl rfl) (.cons (t:=7) rfl (by exact .inl rfl) .nil))))) (show 0=0 from rfl) (by decide) ?_ ?_ ?_
 ·exact lC (lR rfl) lN
 ·exact aM
 rintro k hIA ihA
 try (dsimp only at hIA)
 try dsimp only [baseT,List.cons_append,List.nil_append]
 refine Wq<|Wq<|qW 12 15 rfl<|qM rfl<|qM rfl<|qLe rfl<|Nl<|Wo rfl rfl<|Wx<|Wq<|qW 42 47 rfl<|qM rfl<|qM rfl<|qM rfl<|qM rfl<|Od rfl rfl (C0 (fr:=[]) rfl rfl hins fok35 (.cons rfl (.pure rfl) (.cons rfl (.pure rfl) (.cons rfl (.pure rfl) (.cons rfl (.pure hz) .nil)))) rfl)<|Nl<|Wb<|W.loop_keep (α:=Nat) (fun x=>x) 0 (fun x=>[(6,.base (.int .i64 20))]) (fun x=>mt) (fun x=>x=0) 0 [] (.cons (t:=0) rfl (by exact .inl rfl) (.cons (t:=1) rfl (by exact .inl rfl) (.cons (t:=2) rfl (by (exact .inl (by assumption))) .nil))) (show 0=0 from rfl) (by decide) ?_ ?_ ?_
 ·exact lC (lR rfl) lN
 ·exact aM
 rintro j hIB ihB
 try (dsimp only at hIB)
 try dsimp only [baseT,List.cons_append,List.nil_append]
 refine Wq<|Wq<|qW 51 54 rfl<|qM rfl<|qM rfl<|qK rfl<|Nl<|Wo rfl rfl<|Wx ?_
 exact ⟨.inr rfl,_,mt,RVs.nil,all_mt,rfl,rfl⟩
theorem sortI_none (z:AV) (hz:z.pure=true):AFn Try.prog 17 0 [.isl [] 0,z] mt (.tup []) mt:=by
 refine AFn.eq Try.func17 rfl rfl (Nat.le_of_ble_eq_true rfl) ?_
 have hst:=stabI_none z hz
 refine qW 0 5 rfl<|qM rfl<|qM rfl<|qH rfl ty22<|qM rfl<|Od rfl rfl (C0 (fr:=[]) rfl rfl hst fok27 (.cons rfl (.pure rfl) (.cons rfl (.pure rfl) (.cons rfl (.pure hz) .nil))) rfl)<|Nl ?_
 exact ⟨.inr rfl,_,mt,RVs.nil,all_mt,rfl,rfl⟩
set_option maxHeartbeats 2000000 in
theorem rank_any (p:Po) (l:List Rt) (hp:p.pr.length≤1000) (hl:l.length < 20) (ho:∀ r∈l,OkR r):AFn Try.prog 10 0 [.agg (poC p),.isl (rtsC l) l.length] mt (.isl (natsC (isortN (cmpN p l) l.length)) l.length) mt:=by
 refine AFn.eq Try.func10 rfl rfl (Nat.le_of_ble_eq_true rfl) ?_
 by_cases h0:l.length=0
 ·obtain rfl:l=[]:=List.length_eq_zero_iff.1 h0
  have hs:=AFn.arg0x (a:=.nils) (sortI_none (.clo 18 [.imm (poC p) 0,.imm [.isl [] 0] 0]) rfl) fun X φ w x h=>h.nil_isl
  have g1:decide ((0:Int) < 0)=false:=by decide
  show W _ _ _ _ _ _ _ _
  rw [show rtsC []=[] from rfl,show ([]:List Rt).length=0 from rfl,po_lit]
  rw [po_lit] at hs
  refine Wq<|qW 0 3 rfl<|qC rfl<|qC rfl<|qA rfl<|Nl<|Wq<|qW 7 8 rfl<|qA rfl<|Nl<|Wq<|Wq<|qW 12 15 rfl<|qL rfl ty29 rfl<|qH rfl ty29<|qM rfl<|Nl<|Wb<|W.loop_keep (α:=Nat) (fun x=>x) 2 (fun x=>[(2,.own 0 0),(3,.own 1 0),(5,.nils),(9,.base (.int .i64 0))]) (fun x=>up (up mt 0 (some ([.base (.int .i64 p.asn),.base (.bool p.n4),.base (.bool p.n6),.base (.bool p.hol),.base (.int .i64 p.hops),.isl p.dc p.dn,.isl (prsC p.pr) p.pr.length]))) 1 (some ([.isl [] 0]))) (fun x=>x=0) 0 [(0,0),(1,1)] (.cons (t:=8) rfl (by exact .inl rfl) .nil) (show 0=0 from rfl) (by decide) ?_ ?_ ?_
  ·exact lC (lI rfl) (lC (lI rfl) (lC (lR rfl) (lC (lR rfl) lN)))
  ·exact aU (kR rfl) (aU (kR rfl) aM)
  rintro k hIA ihA
  try (dsimp only at hIA)
  try dsimp only [baseT,List.cons_append,List.nil_append]
  refine Wq<|qW 19 20 rfl<|qK rfl<|Nl<|Wq<|Wo rfl rfl<|Wx<|W.frzo (t:=2) (r:=0) rfl rfl rfl<|W.frzo (t:=3) (r:=1) rfl rfl rfl<|Wq<|qW 45 48 rfl<|qM rfl<|Od rfl rfl (LO.makeClo (cs:=[.imm [.base (.int .i64 p.asn),.base (.bool p.n4),.base (.bool p.n6),.base (.bool p.hol),.base (.int .i64 p.hops),.isl p.dc p.dn,.isl (prsC p.pr) p.pr.length] 0,.imm [.isl [] 0] 0]) rfl rfl rfl)<|qY rfl hs fok17 rfl<|Nl<|Wq<|qW 52 54 rfl<|qM rfl<|qA rfl<|Nl<|W.nilt (t:=4) rfl<|Wz ⟨.inl rfl,_,mt,Rc (Rt0 rfl) (Rv),aM,?_⟩
  exact ⟨rfl,rfl⟩
 have h1:1≤l.length:=by omega
 have hs:=sortI_any p l hp ho h1 hl
 have hn1:natsC (List.range l.length)≠[]:=natsC_ne (by simpa using h1)
 have hyl:(isortN (cmpN p l) l.length).length=l.length:=isortN_len _ _
 generalize isortN (cmpN p l) l.length=ys at *
 unfold cloR at hs
 rw [po_lit] at hs ⊢
 generalize hn:l.length=n at *
 refine Wq<|qW 0 3 rfl<|qC rfl<|qC rfl<|qA rfl<|Nl<|Wq<|qW 7 8 rfl<|qA rfl<|Nl<|W.name 8 (8 + 1) (t:=5) (sz:=1) rfl (by decide) (by decide)<|Wq<|Wq<|qW 12 15 rfl<|qL rfl ty29 rfl<|qH rfl ty29<|qM rfl<|Nl<|Wb<|W.loop_keep (α:=Nat) (fun x=>n - x) 3 (fun x=>[(2,.own 0 0),(3,.own 1 0),(5,.osl 2 0 x 1),(9,.base (.int .i64 (x:Int)))]) (fun x=>up (up (up mt 0 (some ([.base (.int .i64 p.asn),.base (.bool p.n4),.base (.bool p.n6),.base (.bool p.hol),.base (.int .i64 p.hops),.isl p.dc p.dn,.isl (prsC p.pr) p.pr.length]))) 1 (some ([.isl (rtsC l) n]))) 2 (some (natsC (List.range x)))) (fun x=>x≤n) 0 [(0,0),(1,1),(2,8)] (.cons (t:=8) rfl (by exact .inl rfl) .nil) (show 0≤n from Nat.zero_le _) (by decide) ?_ ?_ ?_
 ·exact lC (lI rfl) (lC (lI rfl) (lC (lI rfl) (lC (lR rfl) lN)))
 ·exact aU (kR rfl) (aU (kR rfl) (aU (kR rfl) aM))
 rintro k hIA ihA
 try (dsimp only at hIA)
 try dsimp only [baseT,List.cons_append,List.nil_append]
 by_cases hc:k < n
 ·have g1:decide ((k:Int) < (n:Int))=true:=decide_eq_true (by omega)
  refine Wq<|qW 19 20 rfl<|qK rfl<|Nl<|Wq<|Wt rfl ‹_›<|Wu<|Wq<|Wb<|Wq<|qW 24 26 rfl<|qM rfl<|qA rfl<|Nl<|qW 30 35 rfl<|qM rfl<|qM rfl<|Od rfl rfl (LO.buildSlice rfl ty22 ty3 (by decide) (by decide) (.cons rfl rfl rfl rfl (Sl rfl) .nil))<|Od rfl rfl (Lap rfl rfl (Sso rfl rfl (Tl rfl)) rfl (nats_tk List.length_range) ty22 ty22 ty3 (by decide) (by omega) (by omega) (by decide))<|qA rfl<|Nl ?_
  rw [show natsC (List.range k)++[.base (.int .i64 (k:Int))]=natsC (List.range (k + 1)) from by rw [List.range_succ,natsC_app];rfl]
  refine qW 39 41 rfl<|qZ rfl (iW _ (by omega))<|qM rfl<|Nl<|WL.renameL [(0,0),(1,1),(2,33)] 3 (by decide) ?_ ?_ (ihA (k + 1) (show n - (k + 1) < n - k from by omega) (show (k + 1)≤n from by omega))
  ·exact lC (lI rfl) (lC (lI rfl) (lC (lI rfl) (lC (lR rfl) (lC (lR rfl) lN))))
  ·exact aU (kP rfl (natsC_pure _)) (aU (kR rfl) (aU (kR rfl) aM))
 ·have g1:decide ((k:Int) < (n:Int))=false:=decide_eq_false (by omega)
  obtain rfl:k=n:=by omega
  refine Wq<|qW 19 20 rfl<|qK rfl<|Nl<|Wq<|Wo rfl ‹_›<|Wx ?_
  clear ihA
  refine W.frzo (t:=2) (r:=0) rfl rfl rfl<|W.frzo (t:=3) (r:=1) rfl rfl rfl<|Wq<|qW 45 48 rfl<|qM rfl<|Od rfl rfl (LO.makeClo (cs:=[.imm [.base (.int .i64 p.asn),.base (.bool p.n4),.base (.bool p.n6),.base (.bool p.hol),.base (.int .i64 p.hops),.isl p.dc p.dn,.isl (prsC p.pr) p.pr.length] 0,.imm [.isl (rtsC l) k] 0]) rfl rfl rfl)<|Od rfl rfl (C1 (fr:=[]) rfl rfl hs fok17 (.osl rfl rfl (.cons rfl (.pure rfl) .nil)) rfl (natsC_pure _) (natsC_pure _) hn1 (by decide) rfl)<|Nl<|Wq<|qW 52 54 rfl<|qM rfl<|qA rfl<|Nl<|Wy (t:=4) rfl rfl (nats_tk hyl) (natsC_pure _)<|Wz ⟨.inl rfl,_,mt,Rc (Rt0 rfl) (Rv),aM,?_⟩
  exact ⟨rfl,rfl⟩
end Go.Proofs.Ythbegdeojkdlbaa
