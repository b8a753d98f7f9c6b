/-
  A message of address resolution in a frame.
-/
import Derived.Test.YtcidmiacfjdepaaGreatDoorJv
import Derived.Test.YtcidmiacfjdepaaGreatDoorMab
namespace Go.Proofs.YtcidmiacfjdepaaGreatDoor
open Go.RowKit
structure RlOk (r:Rl):Prop where
  nm:1≤r.macs.length∧r.macs.length≤1000
  macs:∀ m,m∈r.macs→m.length=6∧IsB m
  n4:r.v4.length≤1000
  v4:∀ a,a∈r.v4→V4Ok a
  n6:r.v6.length≤1000
  v6:∀ a,a∈r.v6→V6Ok a
structure FrG (f:Fr):Prop where
  ok:FrOk f
  dB:IsB f.dst
  sB:IsB f.src
  dl:f.data.length≤99998
theorem FrG.mk6 {d s x:List Int} {v t:Int} (h1:d.length=6∧IsB d) (h2:s.length=6∧IsB s) (h3:IsB x∧x.length≤99998):FrG ⟨d,s,v,t,x⟩:=⟨⟨h1.1,h2.1,h3.1,by have:=h3.2;dsimp only;omega⟩,h1.2,h2.2,h3.2⟩
/-- any frame that is sent -/
structure FrX (f:Fr):Prop where
  ok:FrOk f
  dB:IsB f.dst
  sB:IsB f.src
/-- a frame as it is made -/
structure FrY (f:Fr):Prop where
  ok:FrOk f
  dB:IsB f.dst
  sB:IsB f.src
  dl:f.data.length≤99999
theorem FrY.mk6 {d s x:List Int} {v t:Int} (h1:d.length=6∧IsB d) (h2:s.length=6∧IsB s) (h3:IsB x∧x.length≤99999):FrY ⟨d,s,v,t,x⟩:=⟨⟨h1.1,h2.1,h3.1,Nat.le_succ_of_le h3.2⟩,h1.2,h2.2,h3.2⟩
theorem FrY.x {f:Fr} (h:FrY f):FrX f:=⟨h.ok,h.dB,h.sB⟩
theorem IsB.zeros (n:Nat):IsB (List.replicate n 0):=fun x hx=>by rw [(List.mem_replicate.1 hx).2];decide
set_option maxHeartbeats 4000000 in
theorem arpM_any (l:List Int) (at_:Nat) (r to:Rl) (f:Fr) (hr:RlOk r) (ht:RlOk to) (hf:FrG f) (hl:l.length≤9223372036854775807) :
    ∃ v H',AFn Tryz.prog 49 2 [.own 0 0,.agg (ruleC r),.agg (ruleC to),.own 1 0] (up (up mt 1 (some (frC f))) 0 (some (deckC l at_))) v H' ∧
      ∃ (g:Fr) (at':Nat),FrG g∧v=.tup []∧H'=up (up mt 1 (some (frC g))) 0 (some (deckC l at')):=by
  refine AFn.ex Tryz.func49 rfl rfl (Nat.le_of_ble_eq_true rfl) ?_
  obtain ⟨dst,src,vl,ty,data⟩:=f
  have d6:=hf.ok.d6
  have s6:=hf.ok.s6
  have dB:=hf.dB
  have sB:=hf.sB
  clear hf
  dsimp only at d6 s6 dB sB
  obtain ⟨d0,d1,d2,d3,d4,d5,rfl⟩:=six_of d6
  obtain ⟨s0,s1,s2,s3,s4,s5,rfl⟩:=six_of s6
  obtain ⟨_,_,h8,o1,a1,ho1,rfl,rfl⟩:=dfour_any l at_ hl
  obtain ⟨_,_,h9,x1,a2,hx1,rfl,rfl⟩:=one_any l a1 r.v4 o1 hr.n4 hl
  obtain ⟨_,_,h14,o2,a3,ho2,rfl,rfl⟩:=dfour_any l a2 hl
  obtain ⟨_,_,h15,x2,a4,hx2,rfl,rfl⟩:=one_any l a3 to.v4 o2 ht.n4 hl
  have k1:V4Ok x1:=by
    rcases hx1 with e|e
    · exact e ▸ ho1
    · exact hr.v4 _ e
  have k2:V4Ok x2:=by
    rcases hx2 with e|e
    · exact e ▸ ho2
    · exact ht.v4 _ e
  have hreq:=request_any [s0,s1,s2,s3,s4,s5] x1 x2 rfl
  have hm0:=ht.macs _ (List.getElem_mem (show 0 < to.macs.length by have:=ht.nm;omega))
  have tM:=macs_tk (fun m hm=>(ht.macs m hm).1) (show 0 < to.macs.length by have:=ht.nm;omega)
  have hnm:=ht.nm
  generalize to.macs[0]'(by have:=ht.nm;omega)=m at hm0 tM
  obtain ⟨m6,mB⟩:=hm0
  obtain ⟨m0,m1,m2,m3,m4,m5,rfl⟩:=six_of m6
  have n1:=next_any l a4 3 (by decide) (by decide) hl
  generalize nextV l a4 3=e1 at *
  generalize nextAt l a4=a5 at *
  refine Wq (qW 2 4 rfl rfl rfl (qC rfl rfl rfl (qC rfl rfl rfl (Nl (Wq (Wd 8 27 (by decide) rfl mixed rfl (qM rfl rfl (Od rfl rfl (Nc rfl rfl) (qF rfl rfl ty26 rfl rfl (qG rfl rfl rfl ty23 rfl (Tl rfl) (qM rfl rfl (qF rfl rfl ty35 rfl rfl (qL rfl rfl rfl rfl ty33 rfl (qM rfl rfl (Od rfl rfl (C1 (fr:=[]) rfl rfl (h8) fok47 (.own rfl rfl .nil) rfl rfl rfl (Cn _ _) (by decide) rfl) (Od rfl rfl (C1 (fr:=[]) rfl rfl (h9) fok84 (.own rfl rfl (.cons rfl (.pure rfl) (.cons rfl (.pure rfl) .nil))) rfl rfl rfl (Cn _ _) (by decide) rfl) (qM rfl rfl (qF rfl rfl ty35 rfl rfl (qL rfl rfl rfl rfl ty33 rfl (qM rfl rfl (Od rfl rfl (C1 (fr:=[]) rfl rfl (h14) fok47 (.own rfl rfl .nil) rfl rfl rfl (Cn _ _) (by decide) rfl) (Od rfl rfl (C1 (fr:=[]) rfl rfl (h15) fok84 (.own rfl rfl (.cons rfl (.pure rfl) (.cons rfl (.pure rfl) .nil))) rfl rfl rfl (Cn _ _) (by decide) rfl) (Od rfl rfl (C0 (fr:=[]) rfl rfl (hreq) fok18 (.cons rfl (.pure rfl) (.cons rfl (.pure rfl) (.cons rfl (.pure rfl) .nil))) rfl) (qB rfl ty64 (qS rfl rfl rfl rfl rfl ty64 rfl rfl (Sl rfl) (Nl ⟨by kernel_rfl,(Wq (qW 31 40 rfl rfl rfl (qM rfl rfl (qM rfl rfl (Od rfl rfl (C0 (fr:=[]) rfl rfl (bcX_any) fok19 .nil rfl) (Od rfl rfl (Nc rfl rfl) (qF rfl rfl ty26 rfl rfl (qS rfl rfl rfl rfl rfl ty3 rfl rfl (Sl rfl) (Od rfl rfl (Nc rfl rfl) (qF rfl rfl ty26 rfl rfl (qS rfl rfl rfl rfl rfl ty23 rfl rfl (Sl rfl) (Nl (Wq (W.joinK (α:=Int × List Int × List Int) 3 (fun x=>[(0,.own 0 0),(3,.own 1 0),(8,.own 2 0)]) (fun x=>up (up (up mt 0 (some (deckC l a5))) 1 (some (frC ⟨x.2.1,[s0,s1,s2,s3,s4,s5],vl,2054,data⟩))) 2 (some (arpC ⟨x.1,[s0,s1,s2,s3,s4,s5],x1,x.2.2,x2⟩))) (fun x=>(x.1=1∨x.1=2)∧(x.2.1.length=6∧IsB x.2.1)∧(x.2.2.length=6∧IsB x.2.2)) .nil ?_ ?_))))))))))))))⟩))))))))))))))))))))))))))
  rotate_left
  rintro ⟨op,dd,tm⟩ hIJ
  try (dsimp only at hIJ)
  try dsimp only [joinT,baseT,List.cons_append,List.nil_append]
  rotate_right
  ·
    cases q1:(e1 == 2)
    ·
      refine Wq (qW 44 47 rfl rfl rfl (qM rfl rfl (Od rfl rfl (C1 (fr:=[]) rfl rfl (n1) fok20 (.own rfl rfl (.cons rfl (.pure rfl) .nil)) rfl rfl rfl (Cn _ _) (by decide) rfl) (qE rfl rfl rfl (Nl (Wf rfl ‹_› (Wk ?_)))))))
      intro yJ KJ hJ
      refine W.renameJ [(0,0),(1,1),(2,25)] 3 (by decide) ?_ ?_ (hJ (1,bcM,[0,0,0,0,0,0]) (show (1=1∨1=2)∧(bcM.length=6∧IsB bcM)∧([0,0,0,0,0,0].length=6∧IsB [0,0,0,0,0,0]) from ⟨.inl rfl,⟨rfl,fun x hx=>by simp [bcM] at hx;omega⟩,⟨rfl,fun x hx=>by simp at hx;omega⟩⟩))
      · (repeat' (first|exact LookR.nil|refine LookR.cons ?_ ?_))<;>first|exact .inl ⟨rfl,rfl⟩|exact .inr ⟨rfl,fun _ h=>by cases h⟩|exact .inl ⟨rfl,by first|rfl|assumption ⟩
      · (repeat' (first|exact all_mt|refine all_up ?_ ?_))<;>first|exact ⟨rfl,_,rfl,.inr ⟨rfl,rfl⟩⟩|exact ⟨rfl,_,rfl,.inl rfl⟩|exact ⟨rfl,_,rfl,.inr ⟨rfl,by first|rfl|assumption ⟩⟩
    ·
      refine Wq (qW 44 47 rfl rfl rfl (qM rfl rfl (Od rfl rfl (C1 (fr:=[]) rfl rfl (n1) fok20 (.own rfl rfl (.cons rfl (.pure rfl) .nil)) rfl rfl rfl (Cn _ _) (by decide) rfl) (qE rfl rfl rfl (Nl (Wt rfl ‹_› (Wd 51 67 (by decide) rfl mixed rfl (qM rfl rfl (qF rfl rfl ty35 rfl rfl (qL rfl rfl rfl rfl ty32 rfl (qJ rfl rfl rfl rfl rfl ty32 ty23 (by first|omega|decide|assumption|(simp;done)|(simp;omega)) (Od rfl rfl (Lg rfl rfl ty23 rfl tM) (qF rfl rfl ty35 rfl rfl (qL rfl rfl rfl rfl ty32 rfl (qJ rfl rfl rfl rfl rfl ty32 ty23 (by first|omega|decide|assumption|(simp;done)|(simp;omega)) (Od rfl rfl (Lg rfl rfl ty23 rfl tM) (qF rfl rfl ty64 rfl rfl (qS rfl rfl rfl rfl rfl ty3 rfl rfl (Sl rfl) (qF rfl rfl ty64 rfl rfl (qS rfl rfl rfl rfl rfl ty23 rfl rfl (Sl rfl) (Od rfl rfl (Nc rfl rfl) (qF rfl rfl ty26 rfl rfl (qS rfl rfl rfl rfl rfl ty23 rfl rfl (Sl rfl) (Nl ⟨by kernel_rfl,?_⟩))))))))))))))))))))))))
      intro yJ KJ hJ
      refine W.renameJ [(0,0),(1,1),(2,25)] 3 (by decide) ?_ ?_ (hJ (2,[m0,m1,m2,m3,m4,m5],[m0,m1,m2,m3,m4,m5]) (show (2=1∨2=2)∧([m0,m1,m2,m3,m4,m5].length=6∧IsB [m0,m1,m2,m3,m4,m5])∧([m0,m1,m2,m3,m4,m5].length=6∧IsB [m0,m1,m2,m3,m4,m5]) from ⟨.inr rfl,⟨rfl,mB⟩,⟨rfl,mB⟩⟩))
      · (repeat' (first|exact LookR.nil|refine LookR.cons ?_ ?_))<;>first|exact .inl ⟨rfl,rfl⟩|exact .inr ⟨rfl,fun _ h=>by cases h⟩|exact .inl ⟨rfl,by first|rfl|assumption ⟩
      · (repeat' (first|exact all_mt|refine all_up ?_ ?_))<;>first|exact ⟨rfl,_,rfl,.inr ⟨rfl,rfl⟩⟩|exact ⟨rfl,_,rfl,.inl rfl⟩|exact ⟨rfl,_,rfl,.inr ⟨rfl,by first|rfl|assumption ⟩⟩
  obtain ⟨hop,⟨l1,dB2⟩,l2,tB⟩:=hIJ
  obtain ⟨b0,b1,b2,b3,b4,b5,rfl⟩:=six_of l1
  obtain ⟨c0,c1,c2,c3,c4,c5,rfl⟩:=six_of l2
  have n2:=next_any l a5 8 (by decide) (by decide) hl
  generalize nextV l a5 8=e2 at *
  generalize nextAt l a5=a6 at *
  refine Wq (W.joinK (α:=Ad) 3 (fun x=>[(0,.own 0 0),(3,.own 1 0),(8,.own 2 0)]) (fun x=>up (up (up mt 0 (some (deckC l a6))) 1 (some (frC ⟨[b0,b1,b2,b3,b4,b5],[s0,s1,s2,s3,s4,s5],vl,2054,data⟩))) 2 (some (arpC ⟨op,[s0,s1,s2,s3,s4,s5],x1,[c0,c1,c2,c3,c4,c5],x⟩))) (fun x=>V4Ok x) .nil ?_ ?_)
  rotate_left
  rintro y hIK
  try (dsimp only at hIK)
  try dsimp only [joinT,baseT,List.cons_append,List.nil_append]
  rotate_right
  ·
    cases q1:(e2 == 7)
    ·
      refine Wq (qW 71 74 rfl rfl rfl (qM rfl rfl (Od rfl rfl (C1 (fr:=[]) rfl rfl (n2) fok20 (.own rfl rfl (.cons rfl (.pure rfl) .nil)) rfl rfl rfl (Cn _ _) (by decide) rfl) (qE rfl rfl rfl (Nl (Wf rfl ‹_› (Wk ?_)))))))
      intro yJ KJ hJ
      refine W.renameJ [(0,0),(1,1),(2,2)] 3 (by decide) ?_ ?_ (hJ x2 (show V4Ok x2 from k2))
      · (repeat' (first|exact LookR.nil|refine LookR.cons ?_ ?_))<;>first|exact .inl ⟨rfl,rfl⟩|exact .inr ⟨rfl,fun _ h=>by cases h⟩|exact .inl ⟨rfl,by first|rfl|assumption ⟩
      · (repeat' (first|exact all_mt|refine all_up ?_ ?_))<;>first|exact ⟨rfl,_,rfl,.inr ⟨rfl,rfl⟩⟩|exact ⟨rfl,_,rfl,.inl rfl⟩|exact ⟨rfl,_,rfl,.inr ⟨rfl,by first|rfl|assumption ⟩⟩
    ·
      refine Wq (qW 71 74 rfl rfl rfl (qM rfl rfl (Od rfl rfl (C1 (fr:=[]) rfl rfl (n2) fok20 (.own rfl rfl (.cons rfl (.pure rfl) .nil)) rfl rfl rfl (Cn _ _) (by decide) rfl) (qE rfl rfl rfl (Nl (Wt rfl ‹_› (qW 78 82 rfl rfl rfl (qF rfl rfl ty64 rfl rfl (qG rfl rfl rfl ty42 rfl (Tl rfl) (qF rfl rfl ty64 rfl rfl (qS rfl rfl rfl rfl rfl ty42 rfl rfl (Sl rfl) (Nl ?_))))))))))))
      intro yJ KJ hJ
      refine W.renameJ [(0,0),(1,1),(2,2)] 3 (by decide) ?_ ?_ (hJ x1 (show V4Ok x1 from k1))
      · (repeat' (first|exact LookR.nil|refine LookR.cons ?_ ?_))<;>first|exact .inl ⟨rfl,rfl⟩|exact .inr ⟨rfl,fun _ h=>by cases h⟩|exact .inl ⟨rfl,by first|rfl|assumption ⟩
      · (repeat' (first|exact all_mt|refine all_up ?_ ?_))<;>first|exact ⟨rfl,_,rfl,.inr ⟨rfl,rfl⟩⟩|exact ⟨rfl,_,rfl,.inl rfl⟩|exact ⟨rfl,_,rfl,.inr ⟨rfl,by first|rfl|assumption ⟩⟩
  have hav:arpV ⟨op,[s0,s1,s2,s3,s4,s5],x1,[c0,c1,c2,c3,c4,c5],y⟩=true:=by
    unfold arpV
    dsimp only
    rw [k1.1,hIK.1]
    rcases hop with h|h<;>rw [h]<;>rfl
  have henc:=encO_any ⟨op,[s0,s1,s2,s3,s4,s5],x1,[c0,c1,c2,c3,c4,c5],y⟩ rfl rfl hav k1.2 hIK.2
  have hBl:(arpB ⟨op,[s0,s1,s2,s3,s4,s5],x1,[c0,c1,c2,c3,c4,c5],y⟩).length=28:=arpB_len rfl rfl (ip4_v6 k1.1) (ip4_v6 hIK.1)
  have hBB:IsB (arpB ⟨op,[s0,s1,s2,s3,s4,s5],x1,[c0,c1,c2,c3,c4,c5],y⟩):=arpB_isB sB tB
  generalize arpB ⟨op,[s0,s1,s2,s3,s4,s5],x1,[c0,c1,c2,c3,c4,c5],y⟩=B at *
  have n3:=next_any l a6 2 (by decide) (by decide) hl
  generalize nextV l a6 2=e3 at *
  generalize nextAt l a6=a7 at *
  refine Wq (qW 86 95 rfl rfl rfl (qM rfl rfl (qG rfl rfl rfl ty64 rfl (Tl rfl) (Od rfl rfl (LO.callTO (fr:=[]) rfl rfl henc fok17 (.cons rfl (.pure rfl) .nil) (bytesC_pure _) (by decide)) (qM rfl rfl (qX rfl rfl rfl (qX rfl rfl rfl (Od rfl rfl (Nc rfl rfl) (qF rfl rfl ty26 rfl rfl (qS rfl rfl rfl rfl rfl ty24 rfl rfl (Sl rfl) (Nl ?_)))))))))))
  cases q3:(e3 == 0)
  ·
    refine Wq (qW 99 102 rfl rfl rfl (qM rfl rfl (Od rfl rfl (C1 (fr:=[]) rfl rfl (n3) fok20 (.own rfl rfl (.cons rfl (.pure rfl) .nil)) rfl rfl rfl (Cn _ _) (by decide) rfl) (qE rfl rfl rfl (Nl (Wf rfl ‹_› (Wv (q:=1) (j:=14) (r:=88) rfl rfl (by decide) rfl (bytes_tk hBl) (bytesC_pure _) (Sl rfl) ?_)))))))
    refine W.skip ⟨.inr rfl,_,up (up mt 1 (some (bytesC [b0,b1,b2,b3,b4,b5]++bytesC [s0,s1,s2,s3,s4,s5]++[.base (.int .i64 vl),.base (.int .i64 2054),.isl (bytesC B) 28]))) 0 (some (deckC l a7)),RVs.nil,(by (repeat' (first|exact all_mt|refine all_up ?_ ?_))<;>rfl),?_⟩
    exact ⟨⟨[b0,b1,b2,b3,b4,b5],[s0,s1,s2,s3,s4,s5],vl,2054,B⟩,a7,.mk6 ⟨rfl,dB2⟩ ⟨rfl,sB⟩ ⟨hBB,by omega⟩,rfl,by unfold frC;dsimp only;rw [hBl]⟩
  ·
    refine Wq (qW 99 102 rfl rfl rfl (qM rfl rfl (Od rfl rfl (C1 (fr:=[]) rfl rfl (n3) fok20 (.own rfl rfl (.cons rfl (.pure rfl) .nil)) rfl rfl rfl (Cn _ _) (by decide) rfl) (qE rfl rfl rfl (Nl (Wt rfl ‹_› (W.endS (qW 106 115 rfl rfl rfl (qM rfl rfl (qM rfl rfl (Od rfl rfl (Nc rfl rfl) (qF rfl rfl ty26 rfl rfl (qL rfl rfl rfl rfl ty24 rfl (Od rfl rfl (LO.append_zeros rfl rfl rfl rfl (bytes_tk hBl) ty24 ty3 ty5 (by decide) (by first|omega|decide|assumption|(simp;done)|(simp;omega)) (by first|omega|decide|assumption|(simp;done)|(simp;omega)) (by first|omega|decide|assumption|(simp;done)|(simp;omega)) (by first|omega|decide|assumption|(simp;done)|(simp;omega)) (by decide)) (Od rfl rfl (Nc rfl rfl) (qF rfl rfl ty26 rfl rfl (qS rfl rfl rfl rfl rfl ty24 rfl rfl (Sl rfl) (Nl ?_))))))))))))))))))
    have hz:(bytesC B++zerosL 18 [.base (.int .u8 0)])=bytesC (B++List.replicate 18 0):=by rw [bytesC_app];rfl
    have hB2:(B++List.replicate 18 (0:Int)).length=28 + 18:=by rw [List.length_append,hBl,List.length_replicate]
    rw [hz]
    refine ⟨_,fun B0 a0 w0 h0=>h0.frzc (q:=1) (j:=14) (r:=111) rfl rfl (by decide) rfl (bytes_tk hB2) (bytesC_pure _) (Sp.lit rfl),.inr rfl,_,up (up mt 1 (some (bytesC [b0,b1,b2,b3,b4,b5]++bytesC [s0,s1,s2,s3,s4,s5]++[.base (.int .i64 vl),.base (.int .i64 2054),.isl (bytesC (B++List.replicate 18 0)) (28 + 18)]))) 0 (some (deckC l a7)),RVs.nil,(by (repeat' (first|exact all_mt|refine all_up ?_ ?_))<;>rfl),?_⟩
    exact ⟨⟨[b0,b1,b2,b3,b4,b5],[s0,s1,s2,s3,s4,s5],vl,2054,B++List.replicate 18 0⟩,a7,.mk6 ⟨rfl,dB2⟩ ⟨rfl,sB⟩ ⟨hBB.append (IsB.zeros 18),by omega⟩,rfl,by unfold frC;dsimp only;rw [hB2]⟩
end Go.Proofs.YtcidmiacfjdepaaGreatDoor
