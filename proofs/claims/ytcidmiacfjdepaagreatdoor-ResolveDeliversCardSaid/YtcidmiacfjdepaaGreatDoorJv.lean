/-
  Addresses, bytes and stations zs frames are made from them.
-/
import Derived.Test.YtcidmiacfjdepaaGreatDoorJt
import Derived.Test.YtcidmiacfjdepaaGreatDoorMab
namespace Go.Proofs.YtcidmiacfjdepaaGreatDoor
open Go.RowKit
theorem dbytes_any (l:List Int) (at_:Nat) (n:Nat) (hn:n≤1000) (hl:l.length≤9223372036854775807) :
    ∃ v H',AFn Tryz.prog 48 1 [.own 0 0,.base (.int .i64 (n:Int))] (up mt 0 (some (deckC l at_))) v H'∧∃ (L:List Int) (at':Nat),(IsB L∧L.length≤n)∧v=.isl (bytesC L) L.length∧H'=up mt 0 (some (deckC l at')):=by
  refine AFn.ex Tryz.func48 rfl rfl (Nat.le_of_ble_eq_true rfl) ?_
  have n1:=next_any l at_ ((n:Int) + 1) (by omega) (by omega) hl
  have b1:=nextV_bd l at_ ((n:Int) + 1) (by omega)
  obtain ⟨k,hk⟩:∃ k:Nat,nextV l at_ ((n:Int) + 1)=(k:Int):=⟨(nextV l at_ ((n:Int) + 1)).toNat,by omega⟩
  obtain ⟨a1,ha1⟩:∃ a1,nextAt l at_=a1:=⟨_,rfl⟩
  rw [hk] at b1
  rw [hk,ha1] at n1
  refine Wq (qW 1 2 rfl rfl rfl (qA rfl rfl (Nl (Wq (qW 6 7 rfl rfl rfl (qA rfl rfl (Nl (Wq (Wq (qW 11 16 rfl rfl rfl (qM rfl rfl (qM rfl rfl (qZ rfl rfl rfl (by (first|exact IntWalk.i64_in _ (by omega)|assumption)) (Od rfl rfl (C1 (fr:=[]) rfl rfl (n1) fok20 (.own rfl rfl (.cons rfl (.pure rfl) .nil)) rfl rfl rfl (Cn _ _) (by decide) rfl) (qA rfl rfl (Nl (W.name 16 (16 + 1) (t:=5) (sz:=1) rfl (by decide) (by decide) (Wb (W.loop_keep (α:=Nat × Nat × List Int) (fun x=>x.1) 2 (fun x=>[(0,.own 0 0),(5,.osl 1 0 x.2.2.length 1),(6,.base (.int .i64 (x.1:Int)))]) (fun x=>up (up mt 0 (some (deckC l x.2.1))) 1 (some (bytesC x.2.2))) (fun x=>IsB x.2.2∧x.2.2.length + x.1≤n) (k,a1,(([]:List Int))) [(0,0),(1,16)] .nil (show IsB (([]:List Int))∧(([]:List Int)).length + k≤n from ⟨fun x hx=>(by cases hx),(by show 0 + k≤n;omega)⟩) (by decide) ?_ ?_ ?_)))))))))))))))))))
  · (repeat' (first|exact LookR.nil|refine LookR.cons ?_ ?_))<;>first|exact .inl ⟨rfl,rfl⟩|exact .inr ⟨rfl,fun _ h=>by cases h⟩|exact .inl ⟨rfl,by first|rfl|assumption|exact (bytesC_pure _)⟩
  · (repeat' (first|exact all_mt|refine all_up ?_ ?_))<;>first|exact ⟨rfl,_,rfl,.inr ⟨rfl,rfl⟩⟩|exact ⟨rfl,_,rfl,.inl rfl⟩|exact ⟨rfl,_,rfl,.inr ⟨rfl,by first|rfl|assumption|exact (bytesC_pure _)⟩⟩
  rintro ⟨q,a,L⟩ hIA ihA
  try (dsimp only at hIA)
  try dsimp only [baseT,List.cons_append,List.nil_append]
  obtain ⟨hLB,hLq⟩:=hIA
  by_cases hq:q=0
  · have g1:decide ((q:Int) > 0)=false:=decide_eq_false (by omega)
    refine Wq (Wq (qW 20 22 rfl rfl rfl (qM rfl rfl (Od rfl rfl (Gt0 rfl rfl rfl) (Nl (Wf rfl ‹_› (Wx (Wq (qW 44 46 rfl rfl rfl (qM rfl rfl (qA rfl rfl (Nl (Wy (t:=4) rfl rfl (bytes_tk rfl) (bytesC_pure _) ?_)))))))))))))
    refine W.ret ⟨.inl rfl,_,(up mt 0 (some (deckC l a))),(RVs.cons (RV.tmp rfl) RVs.nil),(by (repeat' (first|exact all_mt|refine all_up ?_ ?_))<;>rfl),?_⟩
    exact ⟨L,a,⟨hLB,by omega⟩,rfl,rfl⟩
  · have g1:decide ((q:Int) > 0)=true:=decide_eq_true (by omega)
    have n2:=next_any l a 256 (by decide) (by decide) hl
    obtain ⟨e,he⟩:∃ e,nextV l a 256=e:=⟨_,rfl⟩
    obtain ⟨a2,ha2⟩:∃ a2,nextAt l a=a2:=⟨_,rfl⟩
    rw [he,ha2] at n2
    have hqq:(q:Int) - 1=((q - 1:Nat):Int):=by omega
    have hap:bytesC L++[AV.base (.int .u8 (IntKind.u8.wrap e))]=bytesC (L++[IntKind.u8.wrap e]):=by rw [bytesC_app];rfl
    have hl1:L.length + 1=(L++[IntKind.u8.wrap e]).length:=by simp
    refine Wq (Wq (qW 20 22 rfl rfl rfl (qM rfl rfl (Od rfl rfl (Gt0 rfl rfl rfl) (Nl (Wt rfl ‹_› (Wk (Wq (Wb (qW 26 33 rfl rfl rfl (qM rfl rfl (qM rfl rfl (Od rfl rfl (C1 (fr:=[]) rfl rfl (n2) fok20 (.own rfl rfl (.cons rfl (.pure rfl) .nil)) rfl rfl rfl (Cn _ _) (by decide) rfl) (Od rfl rfl (LO.conv rfl rfl ty3 ty5) (Od rfl rfl (LO.buildSlice rfl ty24 ty5 (by decide) (by decide) (.cons rfl rfl rfl rfl (Sl rfl) .nil)) (Od rfl rfl (Lap rfl rfl (Sso rfl rfl (Tl rfl)) rfl (bytes_tk rfl) ty24 ty24 ty5 (by decide) (by omega) (by omega) (by decide)) (qA rfl rfl (Nl ?_))))))))))))))))))
    rw [hap,hl1]
    refine qW 37 40 rfl rfl rfl (qM rfl rfl (Od rfl rfl (LO.sub_in rfl rfl rfl (by (first|exact IntWalk.i64_in _ (by omega)|assumption))) (qA rfl rfl (Nl ?_))))
    rw [hqq]
    refine WL.renameL [(0,0),(1,31)] 2 (by decide) ?_ ?_ (ihA ((q - 1),a2,(L++[IntKind.u8.wrap e])) (show (q - 1) < q from by omega) (show IsB (L++[IntKind.u8.wrap e])∧(L++[IntKind.u8.wrap e]).length + (q - 1)≤n from ⟨hLB.append (fun x hx=>by rw [List.mem_singleton] at hx;subst hx;exact u8_bd _),by rw [← hl1];omega⟩))
    · (repeat' (first|exact LookR.nil|refine LookR.cons ?_ ?_))<;>first|exact .inl ⟨rfl,rfl⟩|exact .inr ⟨rfl,fun _ h=>by cases h⟩|exact .inl ⟨rfl,by first|rfl|assumption|exact (bytesC_pure _)⟩
    · (repeat' (first|exact all_mt|refine all_up ?_ ?_))<;>first|exact ⟨rfl,_,rfl,.inr ⟨rfl,rfl⟩⟩|exact ⟨rfl,_,rfl,.inl rfl⟩|exact ⟨rfl,_,rfl,.inr ⟨rfl,by first|rfl|assumption|exact (bytesC_pure _)⟩⟩
def V4Ok (a:Ad):Prop:=ip4 a=true∧U64 a.hi∧U64 a.lo
def V6Ok (a:Ad):Prop:=a.v6=true∧U64 a.hi∧U64 a.lo
theorem fourA_ok {n:Int} (h0:0≤n) (h1:n≤100):V4Ok (fourA n):=by
  unfold V4Ok ip4 validA fourA U64
  simp
  omega
theorem sixA_ok {n:Int} (h0:0≤n) (h1:n≤100):V6Ok (sixA n):=by
  unfold V6Ok sixA U64
  simp
  omega
theorem dfour_any (l:List Int) (at_:Nat) (hl:l.length≤9223372036854775807) :
    ∃ v H',AFn Tryz.prog 47 1 [.own 0 0] (up mt 0 (some (deckC l at_))) v H'∧∃ (a:Ad) (at':Nat),V4Ok a∧v=.agg (adC a)∧H'=up mt 0 (some (deckC l at')):=by
  refine AFn.ex Tryz.func47 rfl rfl (Nat.le_of_ble_eq_true rfl) ?_
  have n1:=next_any l at_ 6 (by decide) (by decide) hl
  have n2:=next_any l (nextAt l at_) 10 (by decide) (by decide) hl
  have b2:=nextV_bd l (nextAt l at_) 10 (by decide)
  generalize nextV l (nextAt l at_) 10=q at *
  generalize nextAt l (nextAt l at_)=a2 at *
  generalize nextV l at_ 6=r at *
  generalize nextAt l at_=a1 at *
  refine Wq (qW 1 2 rfl rfl rfl (qB rfl ty42 (Nl ?_)))
  cases k1:(r == 5)
  ·
    refine Wq (Wq (qW 6 9 rfl rfl rfl (qM rfl rfl (Od rfl rfl (C1 (fr:=[]) rfl rfl (n1) fok20 (.own rfl rfl (.cons rfl (.pure rfl) .nil)) rfl rfl rfl (Cn _ _) (by decide) rfl) (qE rfl rfl rfl (Nl (Wf rfl ‹_› (Wk (Wq (qW 19 23 rfl rfl rfl (qM rfl rfl (Od rfl rfl (C1 (fr:=[]) rfl rfl (n2) fok20 (.own rfl rfl (.cons rfl (.pure rfl) .nil)) rfl rfl rfl (Cn _ _) (by decide) rfl) (Od rfl rfl (C0 (fr:=[]) rfl rfl (fourM_any q (by omega) (by omega)) fok46 (.cons rfl (.pure rfl) .nil) rfl) (qS rfl rfl rfl rfl rfl ty42 rfl rfl (Sl rfl) (Nl ?_)))))))))))))))
    refine W.ret ⟨.inl rfl,_,up mt 0 (some (deckC l a2)),(RVs.cons (RV.cellA rfl rfl ty42 rfl (Tk.lit rfl)) RVs.nil),(by (repeat' (first|exact all_mt|refine all_up ?_ ?_))<;>rfl),?_⟩
    exact ⟨fourA q,a2,fourA_ok (by omega) (by omega),rfl,rfl⟩
  ·
    refine Wq (Wq (qW 6 9 rfl rfl rfl (qM rfl rfl (Od rfl rfl (C1 (fr:=[]) rfl rfl (n1) fok20 (.own rfl rfl (.cons rfl (.pure rfl) .nil)) rfl rfl rfl (Cn _ _) (by decide) rfl) (qE rfl rfl rfl (Nl (Wt rfl ‹_› (Wq (qW 13 15 rfl rfl rfl (Od rfl rfl (Bs rfl ty42 (.cons rfl rfl rfl rfl (Sl rfl) .nil)) (qS rfl rfl rfl rfl rfl ty42 rfl rfl (Sl rfl) (Nl ?_))))))))))))
    refine W.ret ⟨.inl rfl,_,up mt 0 (some (deckC l a1)),(RVs.cons (RV.cellA rfl rfl ty42 rfl (Tk.lit rfl)) RVs.nil),(by (repeat' (first|exact all_mt|refine all_up ?_ ?_))<;>rfl),?_⟩
    exact ⟨⟨false,0,134744072⟩,a1,by unfold V4Ok ip4 validA U64;decide,rfl,rfl⟩
theorem one_any (l:List Int) (at_:Nat) (zs:List Ad) (o:Ad) (hzs:zs.length≤1000) (hl:l.length≤9223372036854775807) :
    ∃ v H',AFn Tryz.prog 84 1 [.own 0 0,.isl (adsC zs) zs.length,.agg (adC o)] (up mt 0 (some (deckC l at_))) v H'∧∃ (a:Ad) (at':Nat),(a=o∨a∈zs)∧v=.agg (adC a)∧H'=up mt 0 (some (deckC l at')):=by
  refine AFn.ex Tryz.func84 rfl rfl (Nat.le_of_ble_eq_true rfl) ?_
  have n1:=next_any l at_ 7 (by decide) (by decide) hl
  generalize nextV l at_ 7=r at *
  generalize nextAt l at_=a1 at *
  refine Wq (qW 1 3 rfl rfl rfl (qC rfl rfl rfl (qB rfl ty42 (Nl ?_))))
  by_cases h0:zs.length=0
  · have k0:((zs.length:Int) == 0)=true:=by rw [beq_iff_eq];omega
    refine Wq (Wq (qW 7 15 rfl rfl rfl (qM rfl rfl (qH rfl rfl rfl ty33 (qE rfl rfl rfl (qM rfl rfl (Sd rfl rfl rfl ‹_› rfl (Sd rfl rfl rfl ‹_› rfl (Sd rfl rfl rfl ‹_› rfl (qT rfl rfl ‹_› rfl (Nl (Wt rfl rfl (Wq (qW 19 21 rfl rfl rfl (qG rfl rfl rfl ty42 rfl (Tl rfl) (qS rfl rfl rfl rfl rfl ty42 rfl rfl (Sl rfl) (Nl ?_)))))))))))))))))
    refine W.ret ⟨.inl rfl,_,up mt 0 (some (deckC l at_)),(RVs.cons (RV.cellA rfl rfl ty42 rfl (Tk.lit rfl)) RVs.nil),(by (repeat' (first|exact all_mt|refine all_up ?_ ?_))<;>rfl),?_⟩
    exact ⟨o,at_,.inl rfl,rfl,rfl⟩
  · have k0:((zs.length:Int) == 0)=false:=by rw [beq_eq_false_iff_ne];omega
    cases k1:(r == 6)
    ·
      obtain ⟨j,hj,hjb⟩:=nat_of (nextV_bd l a1 (zs.length:Int) (by omega))
      have n2:=next_any l a1 (zs.length:Int) (by omega) (by omega) hl
      rw [hj] at n2
      generalize nextAt l a1=a2 at *
      have hjl:j < zs.length:=by omega
      refine Wq (Wq (qW 7 15 rfl rfl rfl (qM rfl rfl (qH rfl rfl rfl ty33 (qE rfl rfl rfl (qM rfl rfl (Gd rfl rfl rfl ‹_› rfl (Mv rfl rfl) (Gd rfl rfl rfl ‹_› rfl (C1 (fr:=[]) rfl rfl (n1) fok20 (.own rfl rfl (.cons rfl (.pure rfl) .nil)) rfl rfl rfl (Cn _ _) (by decide) rfl) (Gd rfl rfl rfl ‹_› rfl (Eq0 rfl rfl rfl) (qP rfl rfl ‹_› rfl (Nl (Wf rfl ‹_› (Wk (Wq (qW 25 33 rfl rfl rfl (qM rfl rfl (qM rfl rfl (qM rfl rfl (qH rfl rfl rfl ty33 (Od rfl rfl (C1 (fr:=[]) rfl rfl (n2) fok20 (.own rfl rfl (.cons rfl (.pure rfl) .nil)) rfl rfl rfl (Cn _ _) (by decide) rfl) (qJ rfl rfl rfl rfl rfl ty33 ty42 (by first|omega|decide|assumption|(simp;done)|(simp;omega)) (Od rfl rfl (Lg rfl rfl ty42 rfl (ads_tk hjl)) (qS rfl rfl rfl rfl rfl ty42 rfl rfl (Sl rfl) (Nl ?_))))))))))))))))))))))))
      refine W.ret ⟨.inl rfl,_,up mt 0 (some (deckC l a2)),(RVs.cons (RV.cellA rfl rfl ty42 rfl (Tk.lit rfl)) RVs.nil),(by (repeat' (first|exact all_mt|refine all_up ?_ ?_))<;>rfl),?_⟩
      exact ⟨zs[j],a2,.inr (List.getElem_mem hjl),rfl,rfl⟩
    ·
      refine Wq (Wq (qW 7 15 rfl rfl rfl (qM rfl rfl (qH rfl rfl rfl ty33 (qE rfl rfl rfl (qM rfl rfl (Gd rfl rfl rfl ‹_› rfl (Mv rfl rfl) (Gd rfl rfl rfl ‹_› rfl (C1 (fr:=[]) rfl rfl (n1) fok20 (.own rfl rfl (.cons rfl (.pure rfl) .nil)) rfl rfl rfl (Cn _ _) (by decide) rfl) (Gd rfl rfl rfl ‹_› rfl (Eq0 rfl rfl rfl) (qP rfl rfl ‹_› rfl (Nl (Wt rfl ‹_› (Wq (qW 19 21 rfl rfl rfl (qG rfl rfl rfl ty42 rfl (Tl rfl) (qS rfl rfl rfl rfl rfl ty42 rfl rfl (Sl rfl) (Nl ?_)))))))))))))))))
      refine W.ret ⟨.inl rfl,_,up mt 0 (some (deckC l a1)),(RVs.cons (RV.cellA rfl rfl ty42 rfl (Tk.lit rfl)) RVs.nil),(by (repeat' (first|exact all_mt|refine all_up ?_ ?_))<;>rfl),?_⟩
      exact ⟨o,a1,.inl rfl,rfl,rfl⟩
theorem solic_any (a:Ad):∃ v H',AFn Tryz.prog 85 0 [.agg (adC a)] mt v H'∧∃ m:List Int,(m.length=6∧IsB m)∧v=.agg (bytesC m)∧H'=mt:=by
  refine AFn.ex Tryz.func85 rfl rfl (Nat.le_of_ble_eq_true rfl) ?_
  obtain ⟨v6,hi,lo⟩:=a
  cases v6
  ·
    refine Wq (qW 0 2 rfl rfl rfl (qC rfl rfl rfl (qB rfl ty23 (Nl (Wq (Wq (qW 6 9 rfl rfl rfl (qF rfl rfl ty42 rfl rfl (qL rfl rfl rfl rfl ty4 rfl (qO rfl rfl (Nl (Wt rfl rfl (Wq (qW 13 15 rfl rfl rfl (Od rfl rfl (LO.build_ar rfl ty23 ty5 .nil) (qS rfl rfl rfl rfl rfl ty23 rfl rfl (Sl rfl) (Nl ?_)))))))))))))))))
    refine W.ret ⟨.inl rfl,_,mt,(RVs.cons (RV.cellA rfl rfl ty23 rfl (Tk.lit rfl)) RVs.nil),(by (repeat' (first|exact all_mt|refine all_up ?_ ?_))<;>rfl),?_⟩
    exact ⟨[0,0,0,0,0,0],⟨rfl,fun x hx=>by simp at hx;omega⟩,rfl,rfl⟩
  ·
    refine Wq (qW 0 2 rfl rfl rfl (qC rfl rfl rfl (qB rfl ty23 (Nl (Wq (Wq (qW 6 9 rfl rfl rfl (qF rfl rfl ty42 rfl rfl (qL rfl rfl rfl rfl ty4 rfl (qO rfl rfl (Nl (Wf rfl rfl (Wk (Wq (qW 19 32 rfl rfl rfl (qF rfl rfl ty42 rfl rfl (qL rfl rfl rfl rfl ty40 rfl (Od rfl rfl (LO.shr rfl rfl rfl (by first|omega|decide|assumption|(simp;done)|(simp;omega))) (Od rfl rfl (LO.conv rfl rfl ty40 ty5) (qF rfl rfl ty42 rfl rfl (qL rfl rfl rfl rfl ty40 rfl (Od rfl rfl (LO.shr rfl rfl rfl (by first|omega|decide|assumption|(simp;done)|(simp;omega))) (Od rfl rfl (LO.conv rfl rfl ty40 ty5) (qF rfl rfl ty42 rfl rfl (qL rfl rfl rfl rfl ty40 rfl (Od rfl rfl (LO.conv rfl rfl ty40 ty5) (Od rfl rfl (LO.build_ar rfl ty23 ty5 (.cons rfl rfl rfl rfl (Sl rfl) (.cons rfl rfl rfl rfl (Sl rfl) (.cons rfl rfl rfl rfl (Sl rfl) (.cons rfl rfl rfl rfl (Sl rfl) (.cons rfl rfl rfl rfl (Sl rfl) (.cons rfl rfl rfl rfl (Sl rfl) .nil))))))) (qS rfl rfl rfl rfl rfl ty23 rfl rfl (Sl rfl) (Nl ?_)))))))))))))))))))))))))))))
    refine W.ret ⟨.inl rfl,_,mt,(RVs.cons (RV.cellA rfl rfl ty23 rfl (Tk.lit rfl)) RVs.nil),(by (repeat' (first|exact all_mt|refine all_up ?_ ?_))<;>rfl),?_⟩
    refine ⟨[51,51,255,_,_,_],⟨rfl,fun x hx=>?_⟩,rfl,rfl⟩
    simp only [List.mem_cons,List.not_mem_nil,or_false] at hx
    rcases hx with rfl|rfl|rfl|rfl|rfl|rfl<;>first|decide|exact u8_bd _
end Go.Proofs.YtcidmiacfjdepaaGreatDoor
