/-
  A message of neighbour discovery in a frame.
-/
import Derived.Test.YtcidmiacfjdepaaGreatDoorJw
import Derived.Test.YtcidmiacfjdepaaGreatDoorCe
import Derived.Test.YtcidmiacfjdepaaGreatDoorQk
import Derived.Test.YtcidmiacfjdepaaGreatDoorMab
namespace Go.Proofs.YtcidmiacfjdepaaGreatDoor
open Go.RowKit
theorem hi8_bd (x:Int):0≤hi8 x∧hi8 x≤255:=by unfold hi8;exact u8_bd _
theorem encL2_ok (p:Pk) (hB:IsB p.bs):IsB (encL2 p)∧(encL2 p).length≤60 + p.bs.length:=by
  unfold encL2
  split
  · rename_i hv
    unfold vpk validP at hv
    simp only [Bool.and_eq_true,decide_eq_true_eq] at hv
    have hp:0≤p.p∧p.p≤255:=by omega
    have ht:0≤p.t∧p.t≤255:=by omega
    have l1:=adl_len p.s
    have l2:=adl_len p.d
    unfold encB
    split
    · refine ⟨IsB.append (IsB.append (IsB.append (IsB.append ?_ (putL_isB _)) ?_) ((addrL_isB _).append (addrL_isB _))) hB,?_⟩
      · intro x hx
        simp only [List.mem_cons,List.not_mem_nil,or_false] at hx
        omega
      · intro x hx
        simp only [List.mem_cons,List.not_mem_nil,or_false] at hx
        omega
      · simp only [List.length_append,putL,List.length_cons,List.length_nil]
        omega
    · refine ⟨IsB.append ?_ hB,?_⟩
      · unfold hdS
        exact ((hdB_isB hp ht).set _ (hi8_bd _)).set _ (u8_bd _)
      · rw [List.length_append]
        unfold hdS
        rw [List.length_set,List.length_set,hdB_len]
        omega
  · exact ⟨fun x hx=>by simp at hx,by simp⟩
theorem v6_u {a:Ad} (h:V6Ok a):U64 a.hi∧U64 a.lo:=h.2
set_option maxHeartbeats 8000000 in
theorem nbM_any (l:List Int) (at_:Nat) (r to:Rl) (f:Fr) (hr:RlOk r) (ht:RlOk to) (hf:FrG f) (hl:l.length≤9223372036854775807) :
    ∃ v H',AFn Tryz.prog 50 2 [.own 0 0,.agg (ruleC r),.agg (ruleC to),.own 1 0] (up (up mt 1 (some (frC f))) 0 (some (deckC l at_))) v H' ∧
      ∃ (g:Fr) (at':Nat),FrG g∧v=.tup []∧H'=up (up mt 1 (some (frC g))) 0 (some (deckC l at')):=by
  refine AFn.ex Tryz.func50 rfl rfl (Nat.le_of_ble_eq_true rfl) ?_
  obtain ⟨dst,src,vl,ty,data⟩:=f
  have d6:=hf.ok.d6
  have s6:=hf.ok.s6
  have sB:=hf.sB
  clear hf
  dsimp only at d6 s6 sB
  obtain ⟨d0,d1,d2,d3,d4,d5,rfl⟩:=six_of d6
  obtain ⟨s0,s1,s2,s3,s4,s5,rfl⟩:=six_of s6
  have n4:=next_any l at_ 9 (by decide) (by decide) hl
  have b4:=nextV_bd l at_ 9 (by decide)
  generalize nextV l at_ 9=q1 at *
  generalize nextAt l at_=a1 at *
  obtain ⟨_,_,h6,sr,a2,hsr,rfl,rfl⟩:=one_any l a1 r.v6 (sixA q1) hr.n6 hl
  have n4':=next_any l a2 9 (by decide) (by decide) hl
  have b4':=nextV_bd l a2 9 (by decide)
  generalize nextV l a2 9=q2 at *
  generalize nextAt l a2=a3 at *
  obtain ⟨_,_,h6',tg,a4,htg,rfl,rfl⟩:=one_any l a3 to.v6 (sixA q2) ht.n6 hl
  have n8:=next_any l a4 2 (by decide) (by decide) hl
  generalize nextV l a4 2=q3 at *
  generalize nextAt l a4=a5 at *
  have ksr:V6Ok sr:=by
    rcases hsr with e|e
    · exact e ▸ sixA_ok (by omega) (by omega)
    · exact hr.v6 _ e
  have ktg:V6Ok tg:=by
    rcases htg with e|e
    · exact e ▸ sixA_ok (by omega) (by omega)
    · exact ht.v6 _ e
  obtain ⟨_,_,hso,mS,⟨mS6,mSB⟩,rfl,rfl⟩:=solic_any tg
  obtain ⟨z0,z1,z2,z3,z4,z5,rfl⟩:=six_of mS6
  have hm0:=ht.macs _ (List.getElem_mem (show 0 < to.macs.length by have:=ht.nm;omega))
  have tM:=macs_tk (fun m hm=>(ht.macs m hm).1) (show 0 < to.macs.length by have:=ht.nm;omega)
  have hnm:=ht.nm
  generalize to.macs[0]'(by have:=ht.nm;omega)=m at hm0 tM
  obtain ⟨m6,mB⟩:=hm0
  obtain ⟨m0,m1,m2,m3,m4,m5,rfl⟩:=six_of m6
  have e6:=next_any l a5 6 (by decide) (by decide) hl
  generalize nextV l a5 6=e at *
  generalize nextAt l a5=a6 at *
  generalize hhas:(q3 == 0)=has
  refine Wq (qW 2 4 rfl rfl rfl (qC rfl rfl rfl (qC rfl rfl rfl (Nl (Wq (Wd 8 17 (by decide) rfl mixed rfl (qM rfl rfl (qF rfl rfl ty35 rfl rfl (qL rfl rfl rfl rfl ty33 rfl (qM rfl rfl (Od rfl rfl (C1 (fr:=[]) rfl rfl (n4) fok20 (.own rfl rfl (.cons rfl (.pure rfl) .nil)) rfl rfl rfl (Cn _ _) (by decide) rfl) (Od rfl rfl (C0 (fr:=[]) rfl rfl (sixM_any q1 (by omega) (by omega)) fok51 (.cons rfl (.pure rfl) .nil) rfl) (Od rfl rfl (C1 (fr:=[]) rfl rfl (h6) fok84 (.own rfl rfl (.cons rfl (.pure rfl) (.cons rfl (.pure rfl) .nil))) rfl rfl rfl (Cn _ _) (by decide) rfl) (qB rfl ty42 (qS rfl rfl rfl rfl rfl ty42 rfl rfl (Sl rfl) (Nl ⟨by kernel_rfl,(Wq (Wd 21 34 (by decide) rfl mixed rfl (qM rfl rfl (qF rfl rfl ty35 rfl rfl (qL rfl rfl rfl rfl ty33 rfl (qM rfl rfl (Od rfl rfl (C1 (fr:=[]) rfl rfl (n4') fok20 (.own rfl rfl (.cons rfl (.pure rfl) .nil)) rfl rfl rfl (Cn _ _) (by decide) rfl) (Od rfl rfl (C0 (fr:=[]) rfl rfl (sixM_any q2 (by omega) (by omega)) fok51 (.cons rfl (.pure rfl) .nil) rfl) (Od rfl rfl (C1 (fr:=[]) rfl rfl (h6') fok84 (.own rfl rfl (.cons rfl (.pure rfl) (.cons rfl (.pure rfl) .nil))) rfl rfl rfl (Cn _ _) (by decide) rfl) (qM rfl rfl (Od rfl rfl (C1 (fr:=[]) rfl rfl (n8) fok20 (.own rfl rfl (.cons rfl (.pure rfl) .nil)) rfl rfl rfl (Cn _ _) (by decide) rfl) (qE rfl rfl rfl (Od rfl rfl (Bs rfl ty78 (.cons rfl rfl rfl rfl (Sl rfl) (.cons rfl rfl rfl rfl (Sl rfl) (.cons rfl rfl rfl rfl (Sl rfl) .nil)))) (qB rfl ty78 (qS rfl rfl rfl rfl rfl ty78 rfl rfl (Sl rfl) (Nl ⟨by kernel_rfl,?_⟩))))))))))))))))⟩))))))))))))))))
  rw [hhas]
  refine Wq (qW 38 49 rfl rfl rfl (qM rfl rfl (qM rfl rfl (qF rfl rfl ty78 rfl rfl (qG rfl rfl rfl ty42 rfl (Tl rfl) (Od rfl rfl (C0 (fr:=[]) rfl rfl (hso) fok85 (.cons rfl (.pure rfl) .nil) rfl) (Od rfl rfl (Nc rfl rfl) (qF rfl rfl ty26 rfl rfl (qS rfl rfl rfl rfl rfl ty3 rfl rfl (Sl rfl) (Od rfl rfl (Nc rfl rfl) (qF rfl rfl ty26 rfl rfl (qS rfl rfl rfl rfl rfl ty23 rfl rfl (Sl rfl) (Nl (Wq (W.joinK (α:=Int × Int × Ad × Bool × Ad × List Int × Nat) 4 (fun x=>[(0,.own 0 0),(3,.own 1 0),(8,.own 2 0),(9,.own 3 0)]) (fun x=>up (up (up (up mt 0 (some (deckC l x.2.2.2.2.2.2))) 1 (some (frC ⟨x.2.2.2.2.2.1,[s0,s1,s2,s3,s4,s5],vl,34525,data⟩))) 2 (some (adC x.2.2.2.2.1))) 3 (some (nbC ⟨x.1,x.2.1,x.2.2.1,x.2.2.2.1,[0,0,0,0,0,0]⟩))) (fun x=>(x.2.2.2.2.2.1.length=6∧IsB x.2.2.2.2.2.1)∧(U64 x.2.2.1.hi∧U64 x.2.2.1.lo)∧(U64 x.2.2.2.2.1.hi∧U64 x.2.2.2.2.1.lo)) .nil ?_ ?_)))))))))))))))
  rotate_left
  rintro ⟨k,fl,y,h,s,dd,b⟩ hIJ
  try (dsimp only at hIJ)
  try dsimp only [joinT,baseT,List.cons_append,List.nil_append]
  rotate_right
  ·
    cases k3:(e == 3)
    ·
      cases k4:(e == 4)
      ·
        cases k5:(e == 5)
        ·
          refine Wq (qW 53 55 rfl rfl rfl (qM rfl rfl (Od rfl rfl (C1 (fr:=[]) rfl rfl (e6) fok20 (.own rfl rfl (.cons rfl (.pure rfl) .nil)) rfl rfl rfl (Cn _ _) (by decide) rfl) (Nl (Wb (Wq (qW 59 61 rfl rfl rfl (qE rfl rfl rfl (qA rfl rfl (Nl (Wf rfl ‹_› (Wq (qW 95 97 rfl rfl rfl (qE rfl rfl rfl (qA rfl rfl (Nl (Wf rfl ‹_› (Wq (qW 112 114 rfl rfl rfl (qE rfl rfl rfl (qA rfl rfl (Nl (Wf rfl ‹_› (Wk ?_))))))))))))))))))))))))
          intro yJ KJ hJ
          refine W.renameJ [(0,0),(1,1),(2,15),(3,32)] 4 (by decide) ?_ ?_ (hJ (135,0,tg,has,sr,[z0,z1,z2,z3,z4,z5],a6) (show ([z0,z1,z2,z3,z4,z5].length=6∧IsB [z0,z1,z2,z3,z4,z5])∧(U64 tg.hi∧U64 tg.lo)∧(U64 sr.hi∧U64 sr.lo) from ⟨⟨rfl,mSB⟩,v6_u ktg,v6_u ksr⟩))
          · (repeat' (first|exact LookR.nil|refine LookR.cons ?_ ?_))<;>first|exact .inl ⟨rfl,rfl⟩|exact .inr ⟨rfl,fun _ h=>by cases h⟩|exact .inl ⟨rfl,by first|rfl|assumption ⟩
          · (repeat' (first|exact all_mt|refine all_up ?_ ?_))<;>first|exact ⟨rfl,_,rfl,.inr ⟨rfl,rfl⟩⟩|exact ⟨rfl,_,rfl,.inl rfl⟩|exact ⟨rfl,_,rfl,.inr ⟨rfl,by first|rfl|assumption ⟩⟩
        ·
          obtain ⟨_,_,h12,tg2,a7,htg2,rfl,rfl⟩:=one_any l a6 r.v6 tg hr.n6 hl
          have ktg2:V6Ok tg2:=by
            rcases htg2 with e|e
            · exact e ▸ ktg
            · exact hr.v6 _ e
          obtain ⟨_,_,hso2,mS2,⟨mS26,mS2B⟩,rfl,rfl⟩:=solic_any tg2
          obtain ⟨y0,y1,y2,y3,y4,y5,rfl⟩:=six_of mS26
          refine Wq (qW 53 55 rfl rfl rfl (qM rfl rfl (Od rfl rfl (C1 (fr:=[]) rfl rfl (e6) fok20 (.own rfl rfl (.cons rfl (.pure rfl) .nil)) rfl rfl rfl (Cn _ _) (by decide) rfl) (Nl (Wb (Wq (qW 59 61 rfl rfl rfl (qE rfl rfl rfl (qA rfl rfl (Nl (Wf rfl ‹_› (Wq (qW 95 97 rfl rfl rfl (qE rfl rfl rfl (qA rfl rfl (Nl (Wf rfl ‹_› (Wq (qW 112 114 rfl rfl rfl (qE rfl rfl rfl (qA rfl rfl (Nl (Wt rfl ‹_› (Wq (qW 118 122 rfl rfl rfl (Od rfl rfl (Bs rfl ty42 (.cons rfl rfl rfl rfl (Sl rfl) .nil)) (qS rfl rfl rfl rfl rfl ty42 rfl rfl (Sl rfl) (qF rfl rfl ty78 rfl rfl (qS rfl rfl rfl rfl rfl ty4 rfl rfl (Sl rfl) (Nl (Wq (qW 126 134 rfl rfl rfl (qM rfl rfl (qF rfl rfl ty35 rfl rfl (qL rfl rfl rfl rfl ty33 rfl (qF rfl rfl ty78 rfl rfl (qG rfl rfl rfl ty42 rfl (Tl rfl) (Od rfl rfl (C1 (fr:=[]) rfl rfl (h12) fok84 (.own rfl rfl (.cons rfl (.pure rfl) (.cons rfl (.pure rfl) .nil))) rfl rfl rfl (Cn _ _) (by decide) rfl) (qF rfl rfl ty78 rfl rfl (qS rfl rfl rfl rfl rfl ty42 rfl rfl (Sl rfl) (Nl (qW 138 145 rfl rfl rfl (qM rfl rfl (qF rfl rfl ty78 rfl rfl (qG rfl rfl rfl ty42 rfl (Tl rfl) (Od rfl rfl (C0 (fr:=[]) rfl rfl (hso2) fok85 (.cons rfl (.pure rfl) .nil) rfl) (Od rfl rfl (Nc rfl rfl) (qF rfl rfl ty26 rfl rfl (qS rfl rfl rfl rfl rfl ty23 rfl rfl (Sl rfl) (Nl ?_))))))))))))))))))))))))))))))))))))))))))))))))))
          intro yJ KJ hJ
          refine W.renameJ [(0,0),(1,1),(2,15),(3,32)] 4 (by decide) ?_ ?_ (hJ (135,0,tg2,false,((⟨true,0,0⟩:Ad)),[y0,y1,y2,y3,y4,y5],a7) (show ([y0,y1,y2,y3,y4,y5].length=6∧IsB [y0,y1,y2,y3,y4,y5])∧(U64 tg2.hi∧U64 tg2.lo)∧(U64 ((⟨true,0,0⟩:Ad)).hi∧U64 ((⟨true,0,0⟩:Ad)).lo) from ⟨⟨rfl,mS2B⟩,v6_u ktg2,⟨by unfold U64;decide,by unfold U64;decide⟩⟩))
          · (repeat' (first|exact LookR.nil|refine LookR.cons ?_ ?_))<;>first|exact .inl ⟨rfl,rfl⟩|exact .inr ⟨rfl,fun _ h=>by cases h⟩|exact .inl ⟨rfl,by first|rfl|assumption ⟩
          · (repeat' (first|exact all_mt|refine all_up ?_ ?_))<;>first|exact ⟨rfl,_,rfl,.inr ⟨rfl,rfl⟩⟩|exact ⟨rfl,_,rfl,.inl rfl⟩|exact ⟨rfl,_,rfl,.inr ⟨rfl,by first|rfl|assumption ⟩⟩
      ·
        obtain ⟨j,hj,hjb⟩:=nat_of (nextV_bd l a6 2 (by decide))
        have n9:=next_any l a6 2 (by decide) (by decide) hl
        rw [hj] at n9
        generalize nextAt l a6=a7 at *
        have hsl:([.base (.int .i64 133),.base (.int .i64 134)]:List AV)[0 + j * 1]?=some (.base (.int .i64 (133 + (j:Int)))):=by
          match j,hjb with
          | 0,_=>rfl
          | 1,_=>rfl
          | k + 2,h=>omega
        refine Wq (qW 53 55 rfl rfl rfl (qM rfl rfl (Od rfl rfl (C1 (fr:=[]) rfl rfl (e6) fok20 (.own rfl rfl (.cons rfl (.pure rfl) .nil)) rfl rfl rfl (Cn _ _) (by decide) rfl) (Nl (Wb (Wq (qW 59 61 rfl rfl rfl (qE rfl rfl rfl (qA rfl rfl (Nl (Wf rfl ‹_› (Wq (qW 95 97 rfl rfl rfl (qE rfl rfl rfl (qA rfl rfl (Nl (Wt rfl ‹_› (qW 101 108 rfl rfl rfl (Od rfl rfl (LO.buildSlice rfl ty27 ty3 (by decide) (by decide) (.cons rfl rfl rfl rfl (Sl rfl) (.cons rfl rfl rfl rfl (Sl rfl) .nil))) (qM rfl rfl (Od rfl rfl (C1 (fr:=[]) rfl rfl (n9) fok20 (.own rfl rfl (.cons rfl (.pure rfl) .nil)) rfl rfl rfl (Cn _ _) (by decide) rfl) (Od rfl rfl (Ia rfl rfl rfl rfl ty27 ty3 (by first|omega|decide|assumption|(simp;done)|(simp;omega))) (qL rfl rfl rfl hsl ty3 rfl (Od rfl rfl (Bs rfl ty78 (.cons rfl rfl rfl rfl (Sl rfl) .nil)) (qS rfl rfl rfl rfl rfl ty78 rfl rfl (Sl rfl) (Nl ?_))))))))))))))))))))))))))
        intro yJ KJ hJ
        refine W.renameJ [(0,0),(1,1),(2,15),(3,32)] 4 (by decide) ?_ ?_ (hJ (((133 + (j:Int))),0,((⟨false,0,0⟩:Ad)),false,sr,[z0,z1,z2,z3,z4,z5],a7) (show ([z0,z1,z2,z3,z4,z5].length=6∧IsB [z0,z1,z2,z3,z4,z5])∧(U64 ((⟨false,0,0⟩:Ad)).hi∧U64 ((⟨false,0,0⟩:Ad)).lo)∧(U64 sr.hi∧U64 sr.lo) from ⟨⟨rfl,mSB⟩,⟨by unfold U64;decide,by unfold U64;decide⟩,v6_u ksr⟩))
        · (repeat' (first|exact LookR.nil|refine LookR.cons ?_ ?_))<;>first|exact .inl ⟨rfl,rfl⟩|exact .inr ⟨rfl,fun _ h=>by cases h⟩|exact .inl ⟨rfl,by first|rfl|assumption ⟩
        · (repeat' (first|exact all_mt|refine all_up ?_ ?_))<;>first|exact ⟨rfl,_,rfl,.inr ⟨rfl,rfl⟩⟩|exact ⟨rfl,_,rfl,.inl rfl⟩|exact ⟨rfl,_,rfl,.inr ⟨rfl,by first|rfl|assumption ⟩⟩
    ·
      have n1:=next_any l a6 8 (by decide) (by decide) hl
      generalize nextV l a6 8=fl at *
      generalize nextAt l a6=a7 at *
      obtain ⟨_,_,h7,tg2,a8,htg2,rfl,rfl⟩:=one_any l a7 r.v6 tg hr.n6 hl
      have ktg2:V6Ok tg2:=by
        rcases htg2 with e|e
        · exact e ▸ ktg
        · exact hr.v6 _ e
      refine Wq (qW 53 55 rfl rfl rfl (qM rfl rfl (Od rfl rfl (C1 (fr:=[]) rfl rfl (e6) fok20 (.own rfl rfl (.cons rfl (.pure rfl) .nil)) rfl rfl rfl (Cn _ _) (by decide) rfl) (Nl (Wb (Wq (qW 59 61 rfl rfl rfl (qE rfl rfl rfl (qA rfl rfl (Nl (Wt rfl ‹_› (Wq (Wd 65 79 (by decide) rfl mixed rfl (qM rfl rfl (Od rfl rfl (C1 (fr:=[]) rfl rfl (n1) fok20 (.own rfl rfl (.cons rfl (.pure rfl) .nil)) rfl rfl rfl (Cn _ _) (by decide) rfl) (qM rfl rfl (qF rfl rfl ty35 rfl rfl (qL rfl rfl rfl rfl ty33 rfl (qF rfl rfl ty78 rfl rfl (qG rfl rfl rfl ty42 rfl (Tl rfl) (Od rfl rfl (C1 (fr:=[]) rfl rfl (h7) fok84 (.own rfl rfl (.cons rfl (.pure rfl) (.cons rfl (.pure rfl) .nil))) rfl rfl rfl (Cn _ _) (by decide) rfl) (qF rfl rfl ty78 rfl rfl (qS rfl rfl rfl rfl rfl ty3 rfl rfl (Sl rfl) (qF rfl rfl ty78 rfl rfl (qS rfl rfl rfl rfl rfl ty3 rfl rfl (Sl rfl) (qF rfl rfl ty78 rfl rfl (qS rfl rfl rfl rfl rfl ty42 rfl rfl (Sl rfl) (Nl ⟨by kernel_rfl,(qW 83 91 rfl rfl rfl (qM rfl rfl (qF rfl rfl ty35 rfl rfl (qL rfl rfl rfl rfl ty32 rfl (qJ rfl rfl rfl rfl rfl ty32 ty23 (by first|omega|decide|assumption|(simp;done)|(simp;omega)) (Od rfl rfl (Lg rfl rfl ty23 rfl tM) (Od rfl rfl (Nc rfl rfl) (qF rfl rfl ty26 rfl rfl (qS rfl rfl rfl rfl rfl ty23 rfl rfl (Sl rfl) (Nl ?_))))))))))⟩))))))))))))))))))))))))))))
      intro yJ KJ hJ
      refine W.renameJ [(0,0),(1,1),(2,15),(3,32)] 4 (by decide) ?_ ?_ (hJ (136,fl,tg2,has,sr,[m0,m1,m2,m3,m4,m5],a8) (show ([m0,m1,m2,m3,m4,m5].length=6∧IsB [m0,m1,m2,m3,m4,m5])∧(U64 tg2.hi∧U64 tg2.lo)∧(U64 sr.hi∧U64 sr.lo) from ⟨⟨rfl,mB⟩,v6_u ktg2,v6_u ksr⟩))
      · (repeat' (first|exact LookR.nil|refine LookR.cons ?_ ?_))<;>first|exact .inl ⟨rfl,rfl⟩|exact .inr ⟨rfl,fun _ h=>by cases h⟩|exact .inl ⟨rfl,by first|rfl|assumption ⟩
      · (repeat' (first|exact all_mt|refine all_up ?_ ?_))<;>first|exact ⟨rfl,_,rfl,.inr ⟨rfl,rfl⟩⟩|exact ⟨rfl,_,rfl,.inl rfl⟩|exact ⟨rfl,_,rfl,.inr ⟨rfl,by first|rfl|assumption ⟩⟩
  obtain ⟨⟨l1,dB⟩,uy,us⟩:=hIJ
  obtain ⟨b0,b1,b2,b3,b4,b5,rfl⟩:=six_of l1
  refine Wq (W.joinK (α:=List Int × Nat) 4 (fun x=>[(0,.own 0 0),(3,.own 1 0),(8,.own 2 0),(9,.own 3 0)]) (fun x=>up (up (up (up mt 0 (some (deckC l x.2))) 1 (some (frC ⟨[b0,b1,b2,b3,b4,b5],[s0,s1,s2,s3,s4,s5],vl,34525,data⟩))) 2 (some (adC s))) 3 (some (nbC ⟨k,fl,y,h,x.1⟩))) (fun x=>x.1.length=6∧IsB x.1) .nil ?_ ?_)
  rotate_left
  rintro ⟨ln,c⟩ hIK
  try (dsimp only at hIK)
  try dsimp only [joinT,baseT,List.cons_append,List.nil_append]
  rotate_right
  ·
    cases h
    ·
      refine Wq (qW 149 151 rfl rfl rfl (qF rfl rfl ty78 rfl rfl (qL rfl rfl rfl rfl ty4 rfl (Nl (Wf rfl rfl (Wk ?_))))))
      intro yJ KJ hJ
      refine W.renameJ [(0,0),(1,1),(2,2),(3,3)] 4 (by decide) ?_ ?_ (hJ ([0,0,0,0,0,0],b) (show [0,0,0,0,0,0].length=6∧IsB [0,0,0,0,0,0] from ⟨rfl,fun x hx=>by simp at hx;omega⟩))
      · (repeat' (first|exact LookR.nil|refine LookR.cons ?_ ?_))<;>first|exact .inl ⟨rfl,rfl⟩|exact .inr ⟨rfl,fun _ h=>by cases h⟩|exact .inl ⟨rfl,by first|rfl|assumption ⟩
      · (repeat' (first|exact all_mt|refine all_up ?_ ?_))<;>first|exact ⟨rfl,_,rfl,.inr ⟨rfl,rfl⟩⟩|exact ⟨rfl,_,rfl,.inl rfl⟩|exact ⟨rfl,_,rfl,.inr ⟨rfl,by first|rfl|assumption ⟩⟩
    ·
      have n16:=next_any l b 8 (by decide) (by decide) hl
      generalize nextV l b 8=e2 at *
      generalize nextAt l b=b' at *
      cases k7:(e2 == 7)
      ·
        refine Wq (qW 149 151 rfl rfl rfl (qF rfl rfl ty78 rfl rfl (qL rfl rfl rfl rfl ty4 rfl (Nl (Wt rfl rfl (Wq (qW 155 161 rfl rfl rfl (qM rfl rfl (Od rfl rfl (Nc rfl rfl) (qF rfl rfl ty26 rfl rfl (qG rfl rfl rfl ty23 rfl (Tl rfl) (qF rfl rfl ty78 rfl rfl (qS rfl rfl rfl rfl rfl ty23 rfl rfl (Sl rfl) (Nl (Wq (qW 165 168 rfl rfl rfl (qM rfl rfl (Od rfl rfl (C1 (fr:=[]) rfl rfl (n16) fok20 (.own rfl rfl (.cons rfl (.pure rfl) .nil)) rfl rfl rfl (Cn _ _) (by decide) rfl) (qE rfl rfl rfl (Nl (Wf rfl ‹_› (Wk ?_))))))))))))))))))))))
        intro yJ KJ hJ
        refine W.renameJ [(0,0),(1,1),(2,2),(3,3)] 4 (by decide) ?_ ?_ (hJ ([s0,s1,s2,s3,s4,s5],(b')) (show [s0,s1,s2,s3,s4,s5].length=6∧IsB [s0,s1,s2,s3,s4,s5] from ⟨rfl,sB⟩))
        · (repeat' (first|exact LookR.nil|refine LookR.cons ?_ ?_))<;>first|exact .inl ⟨rfl,rfl⟩|exact .inr ⟨rfl,fun _ h=>by cases h⟩|exact .inl ⟨rfl,by first|rfl|assumption ⟩
        · (repeat' (first|exact all_mt|refine all_up ?_ ?_))<;>first|exact ⟨rfl,_,rfl,.inr ⟨rfl,rfl⟩⟩|exact ⟨rfl,_,rfl,.inl rfl⟩|exact ⟨rfl,_,rfl,.inr ⟨rfl,by first|rfl|assumption ⟩⟩
      ·
        refine Wq (qW 149 151 rfl rfl rfl (qF rfl rfl ty78 rfl rfl (qL rfl rfl rfl rfl ty4 rfl (Nl (Wt rfl rfl (Wq (qW 155 161 rfl rfl rfl (qM rfl rfl (Od rfl rfl (Nc rfl rfl) (qF rfl rfl ty26 rfl rfl (qG rfl rfl rfl ty23 rfl (Tl rfl) (qF rfl rfl ty78 rfl rfl (qS rfl rfl rfl rfl rfl ty23 rfl rfl (Sl rfl) (Nl (Wq (qW 165 168 rfl rfl rfl (qM rfl rfl (Od rfl rfl (C1 (fr:=[]) rfl rfl (n16) fok20 (.own rfl rfl (.cons rfl (.pure rfl) .nil)) rfl rfl rfl (Cn _ _) (by decide) rfl) (qE rfl rfl rfl (Nl (Wt rfl ‹_› (qW 172 175 rfl rfl rfl (Od rfl rfl (C0 (fr:=[]) rfl rfl (mac_any 7) fok76 (.cons rfl (.pure rfl) .nil) rfl) (qF rfl rfl ty78 rfl rfl (qS rfl rfl rfl rfl rfl ty23 rfl rfl (Sl rfl) (Nl ?_))))))))))))))))))))))))))
        intro yJ KJ hJ
        refine W.renameJ [(0,0),(1,1),(2,2),(3,3)] 4 (by decide) ?_ ?_ (hJ (((macF 7)),(b')) (show ((macF 7)).length=6∧IsB ((macF 7)) from ⟨rfl,macF_isB 7⟩))
        · (repeat' (first|exact LookR.nil|refine LookR.cons ?_ ?_))<;>first|exact .inl ⟨rfl,rfl⟩|exact .inr ⟨rfl,fun _ h=>by cases h⟩|exact .inl ⟨rfl,by first|rfl|assumption ⟩
        · (repeat' (first|exact all_mt|refine all_up ?_ ?_))<;>first|exact ⟨rfl,_,rfl,.inr ⟨rfl,rfl⟩⟩|exact ⟨rfl,_,rfl,.inl rfl⟩|exact ⟨rfl,_,rfl,.inr ⟨rfl,by first|rfl|assumption ⟩⟩
  obtain ⟨l6,lB⟩:=hIK
  obtain ⟨w0,w1,w2,w3,w4,w5,rfl⟩:=six_of l6
  have n18:=next_any l c 9 (by decide) (by decide) hl
  have b18:=nextV_bd l c 9 (by decide)
  generalize nextV l c 9=q4 at *
  generalize nextAt l c=c1 at *
  have usix:=(sixA_ok (n:=q4) (by omega) (by omega)).2
  have henc:=encX_any ⟨k,fl,y,h,[w0,w1,w2,w3,w4,w5]⟩ s (sixA q4) rfl lB uy.1 uy.2 us.1 us.2 usix.1 usix.2
  unfold encV at henc
  have hP:∀ n:Nb,n.ln.length=6→IsB n.ln→∀ d:Ad,U64 d.hi∧U64 d.lo→(IsB (if okN n s d then encN n s d else zPk).bs∧(if okN n s d then encN n s d else zPk).bs.length≤100)∧(U64 (if okN n s d then encN n s d else zPk).s.hi∧U64 (if okN n s d then encN n s d else zPk).s.lo)∧U64 (if okN n s d then encN n s d else zPk).d.hi∧U64 (if okN n s d then encN n s d else zPk).d.lo:=fun n hn6 hnB d hd=>by
    split
    · refine ⟨⟨?_,?_⟩,us,hd⟩
      · exact ((encL_isB hnB).set _ (u8_bd _)).set _ (u8_bd _)
      · unfold encN sumL2
        dsimp only
        rw [List.length_set,List.length_set]
        have:=(encL_len hn6).2
        omega
    · exact ⟨⟨fun x hx=>by simp [zPk] at hx,by simp [zPk]⟩,⟨by unfold U64;decide,by unfold U64;decide⟩,⟨by unfold U64;decide,by unfold U64;decide⟩⟩
  obtain ⟨⟨pB,pL⟩,us2,ud2⟩:=hP ⟨k,fl,y,h,[w0,w1,w2,w3,w4,w5]⟩ rfl lB (sixA q4) usix
  generalize (if okN ⟨k,fl,y,h,[w0,w1,w2,w3,w4,w5]⟩ s (sixA q4)=true then encN ⟨k,fl,y,h,[w0,w1,w2,w3,w4,w5]⟩ s (sixA q4) else zPk)=P at *
  generalize (if okN ⟨k,fl,y,h,[w0,w1,w2,w3,w4,w5]⟩ s (sixA q4)=true then (0:Int) else 1)=pe at *
  have n19:=next_any l c1 9 (by decide) (by decide) hl
  generalize nextV l c1 9=e9 at *
  generalize nextAt l c1=c2 at *
  refine Wq (Wd 179 191 (by decide) rfl mixed rfl (qG rfl rfl rfl ty78 rfl (Tl rfl) (qG rfl rfl rfl ty42 rfl (Tl rfl) (qM rfl rfl (Od rfl rfl (C1 (fr:=[]) rfl rfl (n18) fok20 (.own rfl rfl (.cons rfl (.pure rfl) .nil)) rfl rfl rfl (Cn _ _) (by decide) rfl) (Od rfl rfl (C0 (fr:=[]) rfl rfl (sixM_any q4 (by omega) (by omega)) fok51 (.cons rfl (.pure rfl) .nil) rfl) (Od rfl rfl (C0 (fr:=[]) rfl rfl (henc) fok86 (.cons rfl (.pure rfl) (.cons rfl (.pure rfl) (.cons rfl (.pure rfl) .nil))) rfl) (qM rfl rfl (qX rfl rfl rfl (qX rfl rfl rfl (qB rfl ty74 (qS rfl rfl rfl rfl rfl ty74 rfl rfl (Sl rfl) (qA rfl rfl (Nl ⟨by kernel_rfl,(Wq (W.joinK (α:=Int) 3 (fun x=>[(0,.own 0 0),(3,.own 1 0),(10,.own 2 0)]) (fun x=>up (up (up mt 0 (some (deckC l c2))) 1 (some (frC ⟨[b0,b1,b2,b3,b4,b5],[s0,s1,s2,s3,s4,s5],vl,34525,data⟩))) 2 (some (pkC ⟨P.s,P.d,P.p,x,P.bs⟩))) (fun x=>True) .nil ?_ ?_))⟩))))))))))))))
  rotate_left
  rintro t hIM
  try (dsimp only at hIM)
  try dsimp only [joinT,baseT,List.cons_append,List.nil_append]
  rotate_right
  ·
    cases k8:(e9 == 8)
    ·
      refine Wq (qW 195 198 rfl rfl rfl (qM rfl rfl (Od rfl rfl (C1 (fr:=[]) rfl rfl (n19) fok20 (.own rfl rfl (.cons rfl (.pure rfl) .nil)) rfl rfl rfl (Cn _ _) (by decide) rfl) (qE rfl rfl rfl (Nl (Wf rfl ‹_› (Wk ?_)))))))
      intro yJ KJ hJ
      refine W.renameJ [(0,0),(1,1),(2,188)] 3 (by decide) ?_ ?_ (hJ P.t (show True from trivial))
      · (repeat' (first|exact LookR.nil|refine LookR.cons ?_ ?_))<;>first|exact .inl ⟨rfl,rfl⟩|exact .inr ⟨rfl,fun _ h=>by cases h⟩|exact .inl ⟨rfl,by first|rfl|assumption ⟩
      · (repeat' (first|exact all_mt|refine all_up ?_ ?_))<;>first|exact ⟨rfl,_,rfl,.inr ⟨rfl,rfl⟩⟩|exact ⟨rfl,_,rfl,.inl rfl⟩|exact ⟨rfl,_,rfl,.inr ⟨rfl,by first|rfl|assumption ⟩⟩
    ·
      refine Wq (qW 195 198 rfl rfl rfl (qM rfl rfl (Od rfl rfl (C1 (fr:=[]) rfl rfl (n19) fok20 (.own rfl rfl (.cons rfl (.pure rfl) .nil)) rfl rfl rfl (Cn _ _) (by decide) rfl) (qE rfl rfl rfl (Nl (Wt rfl ‹_› (qW 202 204 rfl rfl rfl (qF rfl rfl ty74 rfl rfl (qS rfl rfl rfl rfl rfl ty3 rfl rfl (Sl rfl) (Nl ?_))))))))))
      intro yJ KJ hJ
      refine W.renameJ [(0,0),(1,1),(2,188)] 3 (by decide) ?_ ?_ (hJ 254 (show True from trivial))
      · (repeat' (first|exact LookR.nil|refine LookR.cons ?_ ?_))<;>first|exact .inl ⟨rfl,rfl⟩|exact .inr ⟨rfl,fun _ h=>by cases h⟩|exact .inl ⟨rfl,by first|rfl|assumption ⟩
      · (repeat' (first|exact all_mt|refine all_up ?_ ?_))<;>first|exact ⟨rfl,_,rfl,.inr ⟨rfl,rfl⟩⟩|exact ⟨rfl,_,rfl,.inl rfl⟩|exact ⟨rfl,_,rfl,.inr ⟨rfl,by first|rfl|assumption ⟩⟩
  have hre:=renc_any ⟨P.s,P.d,P.p,t,P.bs⟩ us2.1 us2.2 ud2.1 ud2.2 pB
  obtain ⟨oB,oL⟩:=encL2_ok ⟨P.s,P.d,P.p,t,P.bs⟩ pB
  unfold ecV at hre
  have oL:(encL2 ⟨P.s,P.d,P.p,t,P.bs⟩).length≤1000:=by dsimp only at oL;omega
  generalize encL2 ⟨P.s,P.d,P.p,t,P.bs⟩=B at *
  generalize encE ⟨P.s,P.d,P.p,t,P.bs⟩=be at *
  refine qW 208 217 rfl rfl rfl (qM rfl rfl (qG rfl rfl rfl ty74 rfl (Tl rfl) (Od rfl rfl (C0 (fr:=[]) rfl rfl (hre) fok45 (.cons rfl (.pure rfl) .nil) rfl) (qM rfl rfl (qX rfl rfl rfl (qX rfl rfl rfl (Od rfl rfl (Nc rfl rfl) (qF rfl rfl ty26 rfl rfl (qS rfl rfl rfl rfl rfl ty24 rfl rfl (Sl rfl) (Nl ?_))))))))))
  refine ⟨.inr rfl,_,up (up mt 1 (some (frC ⟨[b0,b1,b2,b3,b4,b5],[s0,s1,s2,s3,s4,s5],vl,34525,B⟩))) 0 (some (deckC l c2)),RVs.nil,(by (repeat' (first|exact all_mt|refine all_up ?_ ?_))<;>rfl),?_⟩
  exact ⟨_,c2,.mk6 ⟨rfl,dB⟩ ⟨rfl,sB⟩ ⟨oB,by omega⟩,rfl,rfl⟩
end Go.Proofs.YtcidmiacfjdepaaGreatDoor
