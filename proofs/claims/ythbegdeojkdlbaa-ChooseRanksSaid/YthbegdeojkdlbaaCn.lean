/-
  The order of all routes: the program's.
-/
import Derived.Test.YthbegdeojkdlbaaCm
import Derived.Test.YthbegdeojkdlbaaMab
namespace Go.Proofs.Ythbegdeojkdlbaa
open Go.RowKit
theorem range_drop {n k:Nat} (h:k < n):(List.range n).drop k=k::(List.range n).drop (k + 1):=by
 rw [List.drop_eq_getElem_cons (by simpa using h)]
 simp
theorem insRow {c:Nat→Nat→Int} {n k:Nat} (h:k + 1 < n):isortN c (k + 1)++(List.range n).drop (k + 1)=midL (isortN c (k + 1)) (k + 1) ((List.range n).drop (k + 2)) (k + 1):=by
 have hl:=isortN_len c (k + 1)
 unfold midL
 have e1:(isortN c (k + 1)).take (k + 1)=isortN c (k + 1):=List.take_of_length_le (by omega)
 have e2:(isortN c (k + 1)).drop (k + 1)=[]:=List.drop_eq_nil_of_le (by omega)
 rw [range_drop h,e1,e2]
 simp
theorem insRow2 {c:Nat→Nat→Int} {n k:Nat}:midL (isortN c (k + 1)) (k + 1) ((List.range n).drop (k + 2)) (insP c (isortN c (k + 1)) (k + 1) (k + 1))=isortN c (k + 2)++(List.range n).drop (k + 2):=by
 have hl:=isortN_len c (k + 1)
 show _=ins c (isortN c (k + 1)) (k + 1)++_
 unfold ins midL
 rw [hl]
def cloR (p:Po) (l:List Rt):AV:=.clo 18 [.imm (poC p) 0,.imm [.isl (rtsC l) l.length] 0]
set_option maxHeartbeats 4000000 in
theorem insI_any (p:Po) (l:List Rt) (hp:p.pr.length≤1000) (ho:∀ r∈l,OkR r) (h1:1≤l.length) (h2:l.length≤1000):AFn Try.prog 35 1 [.osl 0 0 l.length 1,.base (.int .i64 0),.base (.int .i64 (l.length:Int)),cloR p l] (up mt 0 (some (natsC (List.range l.length)))) (.tup []) (up mt 0 (some (natsC (isortN (cmpN p l) l.length)))):=by
 refine AFn.eq Try.func35 rfl rfl (Nat.le_of_ble_eq_true rfl) ?_
 have hcl:=fun i k hi hk=>clo_any p l hp ho i k hi hk
 generalize cmpN p l=c at *
 obtain ⟨n,hn⟩:∃ n,n=l.length:=⟨_,rfl⟩
 unfold cloR
 rw [← hn] at hcl h1 h2 ⊢
 rw [show List.range n=isortN c (0 + 1)++(List.range n).drop (0 + 1) from by
  have:=range_drop (n:=n) (k:=0) (by omega)
  rw [List.drop_zero] at this
  conv=>lhs;rw [this]
  rfl]
 refine Wq<|qW 1 4 rfl<|qM rfl<|qZ rfl (iW _ (by omega))<|qA rfl<|Nl ?_
 rw [show (0:Int) + 1=((0 + 1:Nat):Int) from rfl]
 refine Wb<|W.loop_keep (α:=Nat) (fun x=>n - x) 1 (fun x=>[(0,.osl 0 0 n 1),(8,.base (.int .i64 ((x + 1:Nat):Int)))]) (fun x=>up mt 0 (some (natsC (isortN c (x + 1)++(List.range n).drop (x + 1))))) (fun x=>x + 1≤n) 0 [(0,0)] (.cons (t:=1) rfl (by exact .inl rfl) (.cons (t:=2) rfl (by exact .inl rfl) (.cons (t:=3) rfl (by exact .inl rfl) .nil))) (show 0 + 1≤n from by omega) (by decide) ?_ ?_ ?_
 ·exact lC (lI rfl) (lC (lR rfl) lN)
 ·exact aU (kP rfl (natsC_pure _)) aM
 rintro k hIA ihA
 try (dsimp only at hIA)
 try dsimp only [baseT,List.cons_append,List.nil_append]
 by_cases hc:k + 1 < n
 ·have g1:decide (((k + 1:Nat):Int) < (n:Int))=true:=decide_eq_true (by omega)
  have hfin:=insRow2 (c:=c) (n:=n) (k:=k)
  have hSl:=isortN_len c (k + 1)
  have hSm:=isortN_lt c (k + 1)
  rw [insRow hc]
  have hRl:((List.range n).drop (k + 2)).length=n - (k + 2):=by simp
  generalize hSg:isortN c (k + 1)=S at *
  generalize hRg:(List.range n).drop (k + 2)=R at *
  refine Wq<|Wq<|qW 8 11 rfl<|qM rfl<|qM rfl<|qK rfl<|Nl<|Wt rfl ‹_›<|Wu<|Wq<|Wb<|Wq<|qW 15 17 rfl<|qM rfl<|qA rfl<|Nl<|Wb<|W.loop_keep (α:=Nat) (fun x=>x) 1 (fun x=>[(0,.osl 0 0 n 1),(9,.base (.int .i64 (x:Int)))]) (fun x=>up mt 0 (some (natsC (midL S (k + 1) R x)))) (fun x=>x≤k + 1∧insP c S (k + 1) (k + 1)=insP c S (k + 1) x) (k + 1) [(0,0)] (.cons (t:=1) rfl (by exact .inl rfl) (.cons (t:=2) rfl (by exact .inl rfl) (.cons (t:=3) rfl (by exact .inl rfl) (.cons (t:=8) rfl (by exact .inl rfl) .nil)))) (show (k + 1)≤k + 1∧insP c S (k + 1) (k + 1)=insP c S (k + 1) (k + 1) from ⟨Nat.le_refl _,rfl⟩) (by decide) ?_ ?_ ?_
  ·exact lC (lI rfl) (lC (lR rfl) lN)
  ·exact aU (kP rfl (natsC_pure _)) aM
  rintro j hIB ihB
  try (dsimp only at hIB)
  try dsimp only [baseT,List.cons_append,List.nil_append]
  obtain ⟨hj,hpos⟩:=hIB
  have hmid:=fun (hq:insP c S (k + 1) j=j)=>(show midL S (k + 1) R j=isortN c (k + 2)++R from by rw [← hfin,hpos,hq])
  match j,hj,hpos,hmid with
  | 0,hj,hpos,hmid =>
   rw [hmid rfl]
   have g2:decide ((0:Int) < ((0:Nat):Int))=false:=by decide
   refine Wq<|Wq<|Wd 21 38 (by decide) rfl mixed rfl<|qM rfl<|qM rfl<|qGt rfl<|qM rfl<|qD rfl rfl rfl<|qD rfl rfl rfl<|qD rfl rfl rfl<|qD rfl rfl rfl<|qD rfl rfl rfl<|qD rfl rfl rfl<|qD rfl rfl rfl<|qD rfl rfl rfl<|qD rfl rfl rfl<|qD rfl rfl rfl<|qD rfl rfl rfl<|qD rfl rfl rfl<|qP rfl rfl rfl<|Nl ⟨by kernel_rfl,(Wo rfl rfl<|Wx<|qW 71 74 rfl<|qM rfl<|qZ rfl (iW _ (by omega))<|qA rfl<|Nl ?_)⟩
   rw [show ((k + 1:Nat):Int) + 1=((k + 1 + 1:Nat):Int) from by omega]
   clear ihB
   rw [← hRg]
   refine WL.renameL [(0,0)] 1 (by decide) ?_ ?_ (ihA (k + 1) (show n - (k + 1) < n - k from by omega) (show (k + 1) + 1≤n from by omega))
   ·exact lC (lI rfl) (lC (lR rfl) (lC (lR rfl) (lC (lR rfl) (lC (lR rfl) lN))))
   ·exact aU (kP rfl (natsC_pure _)) aM
  | j + 1,hj,hpos,hmid =>
   have g2:decide ((0:Int) < ((j + 1:Nat):Int))=true:=decide_eq_true (by omega)
   have he:((j + 1:Nat):Int) - 1=(j:Int):=by omega
   have hml:(midL S (k + 1) R (j + 1)).length=n:=by rw [midL_len,hSl,hRl];omega
   have a1:=nats_at' (midL_at (S:=S) (R:=R) (x:=k + 1) (j:=j + 1) (by omega))
   have a2:=nats_at' (midL_prev (S:=S) (R:=R) (x:=k + 1) (j:=j) (by omega))
   have hpm:S.getD j 0 < n:=by
    have h3:j < S.length:=by omega
    have:=hSm S[j] (List.getElem_mem h3)
    simp [h3]
    omega
   have hcc:=hcl (k + 1) (S.getD j 0) (by omega) hpm
   have s1:=nats_sp (l:=midL S (k + 1) R (j + 1)) (k:=j + 1) (v:=S.getD j 0) (by omega)
   have s2:=nats_sp (l:=(midL S (k + 1) R (j + 1)).set (j + 1) (S.getD j 0)) (k:=j) (v:=k + 1) (by rw [List.length_set];omega)
   rw [midL_swap (by omega)] at s2
   have hstep:insP c S (k + 1) (j + 1)=if c (k + 1) (S.getD j 0) < 0 then insP c S (k + 1) j else j + 1:=rfl
   generalize S.getD j 0=y at *
   by_cases hlt:c (k + 1) y < 0
   ·rw [if_pos hlt] at hstep
    have g3:decide (c (k + 1) y < 0)=true:=decide_eq_true hlt
    refine Wq<|Wq<|Wd 21 38 (by decide) rfl mixed rfl<|qM rfl<|qM rfl<|qGt rfl<|qM rfl<|gM rfl ‹_›<|gM rfl ‹_›<|gM rfl ‹_›<|qU rfl ‹_› rfl (Ia rfl rfl rfl rfl ty22 ty3 (by omega))<|qU rfl ‹_› rfl (Ld rfl rfl rfl a1 ty3 rfl)<|gM rfl ‹_›<|gM rfl ‹_›<|qU rfl ‹_› rfl (LO.sub_in rfl rfl rfl (iW _ (by omega)))<|qU rfl ‹_› rfl (Ia rfl rfl rfl he ty22 ty3 (by omega))<|qU rfl ‹_› rfl (Ld rfl rfl rfl a2 ty3 rfl)<|qU rfl ‹_› rfl (LO.callClo (fr:=[]) rfl rfl hcc fok18 (.cons rfl (.pure rfl) (.cons rfl (.pure rfl) .nil)) rfl)<|gK rfl ‹_›<|qT rfl ‹_› rfl<|Nl ⟨by kernel_rfl,(Wt rfl ‹_›<|Wu<|Wq<|Wb<|Wd 42 60 (by decide) rfl mixed rfl<|qM rfl<|qM rfl<|qM rfl<|qM rfl<|Od rfl rfl (LO.sub_in rfl rfl rfl (iW _ (by omega)))<|qM rfl<|qM rfl<|Od rfl rfl (LO.sub_in rfl rfl rfl (iW _ (by omega)))<|Od rfl rfl (Ia rfl rfl rfl he ty22 ty3 (by omega))<|Od rfl rfl (Ld rfl rfl rfl a2 ty3 rfl)<|qM rfl<|qM rfl<|Od rfl rfl (Ia rfl rfl rfl rfl ty22 ty3 (by omega))<|Od rfl rfl (Ld rfl rfl rfl a1 ty3 rfl)<|Od rfl rfl (Ia rfl rfl rfl rfl ty22 ty3 (by omega))<|qS rfl ty3 s1 rfl<|Od rfl rfl (Ia rfl rfl rfl he ty22 ty3 (by omega))<|qS rfl ty3 s2 rfl<|Nl ⟨by kernel_rfl,(qW 64 67 rfl<|qM rfl<|Od rfl rfl (LO.sub_in rfl rfl rfl (iW _ (by omega)))<|qA rfl<|Nl ?_)⟩)⟩
    rw [he]
    refine WL.renameL [(0,0)] 1 (by decide) ?_ ?_ (ihB j (show j < (j + 1) from by omega) (show j≤k + 1∧insP c S (k + 1) (k + 1)=insP c S (k + 1) j from ⟨by omega,hpos.trans hstep⟩))
    ·exact lC (lI rfl) (lC (lR rfl) (lC (lR rfl) (lC (lR rfl) (lC (lR rfl) (lC (lR rfl) lN)))))
    ·exact aU (kP rfl (natsC_pure _)) aM
   ·rw [if_neg hlt] at hstep
    have g3:decide (c (k + 1) y < 0)=false:=decide_eq_false hlt
    rw [hmid hstep] at a1 a2 ⊢
    refine Wq<|Wq<|Wd 21 38 (by decide) rfl mixed rfl<|qM rfl<|qM rfl<|qGt rfl<|qM rfl<|gM rfl ‹_›<|gM rfl ‹_›<|gM rfl ‹_›<|qU rfl ‹_› rfl (Ia rfl rfl rfl rfl ty22 ty3 (by omega))<|qU rfl ‹_› rfl (Ld rfl rfl rfl a1 ty3 rfl)<|gM rfl ‹_›<|gM rfl ‹_›<|qU rfl ‹_› rfl (LO.sub_in rfl rfl rfl (iW _ (by omega)))<|qU rfl ‹_› rfl (Ia rfl rfl rfl he ty22 ty3 (by omega))<|qU rfl ‹_› rfl (Ld rfl rfl rfl a2 ty3 rfl)<|qU rfl ‹_› rfl (LO.callClo (fr:=[]) rfl rfl hcc fok18 (.cons rfl (.pure rfl) (.cons rfl (.pure rfl) .nil)) rfl)<|gK rfl ‹_›<|qT rfl ‹_› rfl<|Nl ⟨by kernel_rfl,(Wo rfl ‹_›<|Wx<|qW 71 74 rfl<|qM rfl<|qZ rfl (iW _ (by omega))<|qA rfl<|Nl ?_)⟩
    rw [show ((k + 1:Nat):Int) + 1=((k + 1 + 1:Nat):Int) from by omega]
    clear ihB
    rw [← hRg]
    refine WL.renameL [(0,0)] 1 (by decide) ?_ ?_ (ihA (k + 1) (show n - (k + 1) < n - k from by omega) (show (k + 1) + 1≤n from by omega))
    ·exact lC (lI rfl) (lC (lR rfl) (lC (lR rfl) (lC (lR rfl) (lC (lR rfl) lN))))
    ·exact aU (kP rfl (natsC_pure _)) aM
 ·have g1:decide (((k + 1:Nat):Int) < (n:Int))=false:=decide_eq_false (by omega)
  obtain rfl:n=k + 1:=by omega
  rw [List.drop_eq_nil_of_le (by simp),List.append_nil]
  refine Wq<|Wq<|qW 8 11 rfl<|qM rfl<|qM rfl<|qK rfl<|Nl<|Wo rfl ‹_›<|Wx ?_
  exact ⟨.inr rfl,_,up mt 0 (some (natsC (isortN c (k + 1)))),RVs.nil,all_up rfl all_mt,rfl,rfl⟩
end Go.Proofs.Ythbegdeojkdlbaa
