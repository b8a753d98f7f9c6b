/-
  Frames as a port may send them. Rules of a database are in order; frames that are the same. Whom a frame does not reach (plain).
-/
import Derived.Test.YtcidmiacfjdepaaGreatDoorJy
import Derived.Test.YtcidmiacfjdepaaGreatDoorMab
import Derived.Test.YtcidmiacfjdepaaGreatDoorJt
namespace Go.Proofs.YtcidmiacfjdepaaGreatDoor
open Go.RowKit
theorem frC_len {f:Fr} (h1:f.dst.length=6) (h2:f.src.length=6):(frC f).length=15:=by simp [frC,bytesC_len,h1,h2]
set_option maxHeartbeats 8000000 in
theorem frame_any (l:List Int) (at_:Nat) (r:Rl) (rs:List Rl) (hr:RlOk r) (hrs:∀ x,x∈rs→RlOk x) (hn1:1≤rs.length) (hn2:rs.length≤1000) (hl:l.length≤9223372036854775807) :
    ∃ v H',AFn Tryz.prog 21 1 [.own 0 0,.agg (ruleC r),.isl (rulesC rs) rs.length] (up mt 0 (some (deckC l at_))) v H' ∧
      ∃ (g:Fr) (at':Nat),FrY g∧v=.agg (frC g)∧H'=up mt 0 (some (deckC l at')):=by
  refine AFn.ex Tryz.func21 rfl rfl (Nat.le_of_ble_eq_true rfl) ?_
  have hrn:=hr.nm
  have hm0:=hr.macs _ (List.getElem_mem (show 0 < r.macs.length by omega))
  have tR:=macs_tk (fun m hm=>(hr.macs m hm).1) (show 0 < r.macs.length by omega)
  generalize r.macs[0]'(by omega)=m at hm0 tR
  obtain ⟨m6,mB⟩:=hm0
  obtain ⟨m0,m1,m2,m3,m4,m5,rfl⟩:=six_of m6
  obtain ⟨j,hj,hjb⟩:=nat_of (nextV_bd l at_ (rs.length:Int) (by omega))
  have n1:=next_any l at_ (rs.length:Int) (by omega) (by omega) hl
  rw [hj] at n1
  generalize nextAt l at_=a1 at *
  have hjl:j < rs.length:=by omega
  have tj:=rules_tk hjl
  have hto:=hrs _ (List.getElem_mem hjl)
  generalize rs[j]=to at *
  have htn:=hto.nm
  obtain ⟨i,hi,hib⟩:=nat_of (nextV_bd l a1 (to.macs.length:Int) (by omega))
  have n2:=next_any l a1 (to.macs.length:Int) (by omega) (by omega) hl
  rw [hi] at n2
  generalize nextAt l a1=a2 at *
  have hil:i < to.macs.length:=by omega
  have ti:=macs_tk (fun m hm=>(hto.macs m hm).1) hil
  have hmi:=hto.macs _ (List.getElem_mem hil)
  generalize to.macs[i]=w at hmi ti
  obtain ⟨w6,wB⟩:=hmi
  obtain ⟨w0,w1,w2,w3,w4,w5,rfl⟩:=six_of w6
  clear hj hi
  have n4:=next_any l a2 2 (by decide) (by decide) hl
  generalize nextV l a2 2=e4 at *
  generalize nextAt l a2=a3 at *
  refine Wq (qW 1 3 rfl rfl rfl (qC rfl rfl rfl (qB rfl ty26 (Nl (Wq (qW 7 14 rfl rfl rfl (qF rfl rfl ty35 rfl rfl (qL rfl rfl rfl rfl ty32 rfl (qJ rfl rfl rfl rfl rfl ty32 ty23 (by first|omega|decide|assumption|(simp;done)|(simp;omega)) (Od rfl rfl (Lg rfl rfl ty23 rfl tR) (Od rfl rfl (Bs rfl ty26 (.cons rfl rfl rfl rfl (Sl rfl) (.cons rfl rfl rfl rfl (Sl rfl) .nil))) (qB rfl ty26 (qS rfl rfl rfl rfl rfl ty26 rfl rfl (Sl rfl) (Nl (W.nilc (q:=12) (j:=14) rfl rfl (Sl rfl) (Wq (qW 18 27 rfl rfl rfl (qM rfl rfl (qM rfl rfl (qM rfl rfl (qH rfl rfl rfl ty30 (Od rfl rfl (C1 (fr:=[]) rfl rfl (n1) fok20 (.own rfl rfl (.cons rfl (.pure rfl) .nil)) rfl rfl rfl (Cn _ _) (by decide) rfl) (qJ rfl rfl rfl rfl rfl ty30 ty35 (by first|omega|decide|assumption|(simp;done)|(simp;omega)) (Od rfl rfl (Lg rfl rfl ty35 rfl tj) (qB rfl ty35 (qS rfl rfl rfl rfl rfl ty35 rfl rfl (Sl rfl) (Nl (Wq (Wd 31 42 (by decide) rfl mixed rfl (qF rfl rfl ty35 rfl rfl (qL rfl rfl rfl rfl ty32 rfl (qM rfl rfl (qF rfl rfl ty35 rfl rfl (qL rfl rfl rfl rfl ty32 rfl (qH rfl rfl rfl ty32 (Od rfl rfl (C1 (fr:=[]) rfl rfl (n2) fok20 (.own rfl rfl (.cons rfl (.pure rfl) .nil)) rfl rfl rfl (Cn _ _) (by decide) rfl) (qJ rfl rfl rfl rfl rfl ty32 ty23 (by first|omega|decide|assumption|(simp;done)|(simp;omega)) (Od rfl rfl (Lg rfl rfl ty23 rfl ti) (qF rfl rfl ty26 rfl rfl (qS rfl rfl rfl rfl rfl ty23 rfl rfl (Sl rfl) (Nl ⟨by kernel_rfl,(Wq (W.joinK (α:=List Int × Nat) 5 (fun x=>[(0,.own 0 0),(4,.own 1 0),(6,.own 2 0),(7,.own 3 0),(8,.own 4 0)]) (fun x=>up (up (up (up (up mt 0 (some (deckC l x.2))) 1 (some (ruleC r))) 2 (some ([.base (.int .u8 0),.base (.int .u8 0),.base (.int .u8 0),.base (.int .u8 0),.base (.int .u8 0),.base (.int .u8 0),.base (.int .u8 0),.base (.int .u8 0),.base (.int .u8 0),.base (.int .u8 0),.base (.int .u8 0),.base (.int .u8 0),.base (.int .i64 0),.base (.int .i64 0),.nils]))) 3 (some (frC ⟨[w0,w1,w2,w3,w4,w5],x.1,0,2048,[]⟩))) 4 (some (ruleC to))) (fun x=>x.1.length=6∧IsB x.1) .nil ?_ ?_))⟩)))))))))))))))))))))))))))))))))))))))))
  rotate_left
  rintro ⟨ss,b⟩ hIJ
  try (dsimp only at hIJ)
  try dsimp only [joinT,baseT,List.cons_append,List.nil_append]
  rotate_right
  ·
    by_cases h1:1 < r.macs.length
    case' neg =>
      have k1:decide ((r.macs.length:Int) > 1)=false:=decide_eq_false (by omega)
      refine Wq (qW 46 55 rfl rfl rfl (qF rfl rfl ty35 rfl rfl (qL rfl rfl rfl rfl ty32 rfl (qH rfl rfl rfl ty32 (Od rfl rfl (Gt0 rfl rfl rfl) (qM rfl rfl (Sd rfl rfl rfl ‹_› rfl (Sd rfl rfl rfl ‹_› rfl (Sd rfl rfl rfl ‹_› rfl (qP rfl rfl ‹_› rfl (Nl (Wf rfl rfl (Wk ?_)))))))))))))
      intro yJ KJ hJ
      refine W.renameJ [(0,0),(1,1),(2,2),(3,12),(4,25)] 5 (by decide) ?_ ?_ (hJ ([m0,m1,m2,m3,m4,m5],a2) (show [m0,m1,m2,m3,m4,m5].length=6∧IsB [m0,m1,m2,m3,m4,m5] from ⟨rfl,mB⟩))
      · (repeat' (first|exact LookR.nil|refine LookR.cons ?_ ?_))<;>first|exact .inl ⟨rfl,rfl⟩|exact .inr ⟨rfl,fun _ h=>by cases h⟩|exact .inl ⟨rfl,by first|rfl|assumption ⟩
      · (repeat' (first|exact all_mt|refine all_up ?_ ?_))<;>first|exact ⟨rfl,_,rfl,.inr ⟨rfl,rfl⟩⟩|exact ⟨rfl,_,rfl,.inl rfl⟩|exact ⟨rfl,_,rfl,.inr ⟨rfl,by first|rfl|assumption ⟩⟩
    case' pos =>
      have k1:decide ((r.macs.length:Int) > 1)=true:=decide_eq_true (by omega)
      cases k2:(e4 == 1)
      ·
        refine Wq (qW 46 55 rfl rfl rfl (qF rfl rfl ty35 rfl rfl (qL rfl rfl rfl rfl ty32 rfl (qH rfl rfl rfl ty32 (Od rfl rfl (Gt0 rfl rfl rfl) (qM rfl rfl (Gd rfl rfl rfl ‹_› rfl (Mv rfl rfl) (Gd rfl rfl rfl ‹_› rfl (C1 (fr:=[]) rfl rfl (n4) fok20 (.own rfl rfl (.cons rfl (.pure rfl) .nil)) rfl rfl rfl (Cn _ _) (by decide) rfl) (Gd rfl rfl rfl ‹_› rfl (Eq0 rfl rfl rfl) (qT rfl rfl ‹_› rfl (Nl (Wf rfl ‹_› (Wk ?_)))))))))))))
        intro yJ KJ hJ
        refine W.renameJ [(0,0),(1,1),(2,2),(3,12),(4,25)] 5 (by decide) ?_ ?_ (hJ ([m0,m1,m2,m3,m4,m5],a3) (show [m0,m1,m2,m3,m4,m5].length=6∧IsB [m0,m1,m2,m3,m4,m5] from ⟨rfl,mB⟩))
        · (repeat' (first|exact LookR.nil|refine LookR.cons ?_ ?_))<;>first|exact .inl ⟨rfl,rfl⟩|exact .inr ⟨rfl,fun _ h=>by cases h⟩|exact .inl ⟨rfl,by first|rfl|assumption ⟩
        · (repeat' (first|exact all_mt|refine all_up ?_ ?_))<;>first|exact ⟨rfl,_,rfl,.inr ⟨rfl,rfl⟩⟩|exact ⟨rfl,_,rfl,.inl rfl⟩|exact ⟨rfl,_,rfl,.inr ⟨rfl,by first|rfl|assumption ⟩⟩
      ·
        have t1:=macs_tk (fun m hm=>(hr.macs m hm).1) h1
        have hm1:=hr.macs _ (List.getElem_mem h1)
        generalize r.macs[1]=z at hm1 t1
        obtain ⟨z6,zB⟩:=hm1
        obtain ⟨z0,z1,z2,z3,z4,z5,rfl⟩:=six_of z6
        refine Wq (qW 46 55 rfl rfl rfl (qF rfl rfl ty35 rfl rfl (qL rfl rfl rfl rfl ty32 rfl (qH rfl rfl rfl ty32 (Od rfl rfl (Gt0 rfl rfl rfl) (qM rfl rfl (Gd rfl rfl rfl ‹_› rfl (Mv rfl rfl) (Gd rfl rfl rfl ‹_› rfl (C1 (fr:=[]) rfl rfl (n4) fok20 (.own rfl rfl (.cons rfl (.pure rfl) .nil)) rfl rfl rfl (Cn _ _) (by decide) rfl) (Gd rfl rfl rfl ‹_› rfl (Eq0 rfl rfl rfl) (qT rfl rfl ‹_› rfl (Nl (Wt rfl ‹_› (qW 59 65 rfl rfl rfl (qF rfl rfl ty35 rfl rfl (qL rfl rfl rfl rfl ty32 rfl (qJ rfl rfl rfl rfl rfl ty32 ty23 (by first|omega|decide|assumption|(simp;done)|(simp;omega)) (Od rfl rfl (Lg rfl rfl ty23 rfl t1) (qF rfl rfl ty26 rfl rfl (qS rfl rfl rfl rfl rfl ty23 rfl rfl (Sl rfl) (Nl ?_))))))))))))))))))))
        intro yJ KJ hJ
        refine W.renameJ [(0,0),(1,1),(2,2),(3,12),(4,25)] 5 (by decide) ?_ ?_ (hJ ([z0,z1,z2,z3,z4,z5],a3) (show [z0,z1,z2,z3,z4,z5].length=6∧IsB [z0,z1,z2,z3,z4,z5] from ⟨rfl,zB⟩))
        · (repeat' (first|exact LookR.nil|refine LookR.cons ?_ ?_))<;>first|exact .inl ⟨rfl,rfl⟩|exact .inr ⟨rfl,fun _ h=>by cases h⟩|exact .inl ⟨rfl,by first|rfl|assumption ⟩
        · (repeat' (first|exact all_mt|refine all_up ?_ ?_))<;>first|exact ⟨rfl,_,rfl,.inr ⟨rfl,rfl⟩⟩|exact ⟨rfl,_,rfl,.inl rfl⟩|exact ⟨rfl,_,rfl,.inr ⟨rfl,by first|rfl|assumption ⟩⟩
  obtain ⟨s6,sB⟩:=hIJ
  obtain ⟨s0,s1,s2,s3,s4,s5,rfl⟩:=six_of s6
  have n5:=next_any l b 5 (by decide) (by decide) hl
  generalize nextV l b 5=e at *
  generalize nextAt l b=b1 at *
  have hf0:FrG ⟨[w0,w1,w2,w3,w4,w5],[s0,s1,s2,s3,s4,s5],0,2048,[]⟩:=.mk6 ⟨rfl,wB⟩ ⟨rfl,sB⟩ ⟨fun x hx=>by simp at hx,by simp⟩
  refine Wq (W.joinK (α:=Fr × Nat) 3 (fun x=>[(0,.own 0 0),(6,.own 1 0),(7,.own 2 0)]) (fun x=>up (up (up mt 0 (some (deckC l x.2))) 1 (some ([.base (.int .u8 0),.base (.int .u8 0),.base (.int .u8 0),.base (.int .u8 0),.base (.int .u8 0),.base (.int .u8 0),.base (.int .u8 0),.base (.int .u8 0),.base (.int .u8 0),.base (.int .u8 0),.base (.int .u8 0),.base (.int .u8 0),.base (.int .i64 0),.base (.int .i64 0),.nils]))) 2 (some (frC x.1))) (fun x=>FrG x.1) .nil ?_ ?_)
  rotate_left
  rintro ⟨g,c⟩ hIK
  try (dsimp only at hIK)
  try dsimp only [joinT,baseT,List.cons_append,List.nil_append]
  rotate_right
  ·
    cases k0:(e == 0)
    case' false =>
      cases k1:(e == 1)
      case' false =>
        cases k2:(e == 2)
        case' false =>
          cases k3:(e == 3)
          case' false =>
            have n1:=next_any l b1 9 (by decide) (by decide) hl
            have c1b:=nextV_bd l b1 9 (by decide)
            generalize nextV l b1 9=x1 at *
            generalize nextAt l b1=c1 at *
            have n4:=next_any l c1 9 (by decide) (by decide) hl
            have c4b:=nextV_bd l c1 9 (by decide)
            generalize nextV l c1 9=x2 at *
            generalize nextAt l c1=c2 at *
            obtain ⟨q,hq,hqb⟩:=nat_of (nextV_bd l c2 3 (by decide))
            have n8:=next_any l c2 3 (by decide) (by decide) hl
            rw [hq] at n8
            generalize nextAt l c2=c3 at *
            have hsl:([.base (.int .i64 6),.base (.int .i64 58),.base (.int .i64 17)]:List AV)[0 + q * 1]?=some (.base (.int .i64 (if q=0 then 6 else if q=1 then 58 else 17))):=by
              match q,hqb with
              | 0,_=>rfl
              | 1,_=>rfl
              | 2,_=>rfl
              | k + 3,h=>omega
            generalize (if q=0 then (6:Int) else if q=1 then 58 else 17)=pr at *
            obtain ⟨_,_,hby,L,c4,⟨LB,Ll⟩,rfl,rfl⟩:=dbytes_any l c3 20 (by decide) hl
            have u1:=(sixA_ok (n:=x1) (by omega) (by omega)).2
            have u2:=(sixA_ok (n:=x2) (by omega) (by omega)).2
            have hre:=renc_any ⟨sixA x1,sixA x2,pr,64,L⟩ u1.1 u1.2 u2.1 u2.2 LB
            obtain ⟨oB,oL⟩:=encL2_ok ⟨sixA x1,sixA x2,pr,64,L⟩ LB
            dsimp only at oL
            unfold ecV at hre
            generalize encL2 ⟨sixA x1,sixA x2,pr,64,L⟩=B at *
            generalize encE ⟨sixA x1,sixA x2,pr,64,L⟩=be at *
            refine Wq (qW 69 71 rfl rfl rfl (qM rfl rfl (Od rfl rfl (C1 (fr:=[]) rfl rfl (n5) fok20 (.own rfl rfl (.cons rfl (.pure rfl) .nil)) rfl rfl rfl (Cn _ _) (by decide) rfl) (Nl (Wb (Wq (qW 75 77 rfl rfl rfl (qE rfl rfl rfl (qA rfl rfl (Nl (Wf rfl ‹_› (Wq (Wq (qW 104 106 rfl rfl rfl (qE rfl rfl rfl (qA rfl rfl (Nl (Wf rfl ‹_› (qW 110 112 rfl rfl rfl (qE rfl rfl rfl (qA rfl rfl (Nl (Wf rfl ‹_› (Wq (qW 124 126 rfl rfl rfl (qE rfl rfl rfl (qA rfl rfl (Nl (Wf rfl ‹_› (Wq (qW 138 140 rfl rfl rfl (qF rfl rfl ty26 rfl rfl (qS rfl rfl rfl rfl rfl ty3 rfl rfl (Sl rfl) (Nl (Wd 144 164 (by decide) rfl mixed rfl (qM rfl rfl (Od rfl rfl (C1 (fr:=[]) rfl rfl (n1) fok20 (.own rfl rfl (.cons rfl (.pure rfl) .nil)) rfl rfl rfl (Cn _ _) (by decide) rfl) (Od rfl rfl (C0 (fr:=[]) rfl rfl (sixM_any x1 (by omega) (by omega)) fok51 (.cons rfl (.pure rfl) .nil) rfl) (qM rfl rfl (Od rfl rfl (C1 (fr:=[]) rfl rfl (n4) fok20 (.own rfl rfl (.cons rfl (.pure rfl) .nil)) rfl rfl rfl (Cn _ _) (by decide) rfl) (Od rfl rfl (C0 (fr:=[]) rfl rfl (sixM_any x2 (by omega) (by omega)) fok51 (.cons rfl (.pure rfl) .nil) rfl) (Od rfl rfl (LO.buildSlice rfl ty27 ty3 (by decide) (by decide) (.cons rfl rfl rfl rfl (Sl rfl) (.cons rfl rfl rfl rfl (Sl rfl) (.cons rfl rfl rfl rfl (Sl rfl) .nil)))) (qM rfl rfl (Od rfl rfl (C1 (fr:=[]) rfl rfl (n8) fok20 (.own rfl rfl (.cons rfl (.pure rfl) .nil)) rfl rfl rfl (Cn _ _) (by decide) rfl) (Od rfl rfl (Ia rfl rfl rfl rfl ty27 ty3 (by first|omega|decide|assumption|(simp;done)|(simp;omega))) (qL rfl rfl rfl hsl ty3 rfl (qM rfl rfl (Od rfl rfl (C1 (fr:=[]) rfl rfl (hby) fok48 (.own rfl rfl (.cons rfl (.pure rfl) .nil)) rfl rfl rfl (Cn _ _) (by decide) rfl) (Od rfl rfl (Bs rfl ty74 (.cons rfl rfl rfl rfl (Sl rfl) (.cons rfl rfl rfl rfl (Sl rfl) (.cons rfl rfl rfl rfl (Sl rfl) (.cons rfl rfl rfl rfl (Sl rfl) (.cons rfl rfl rfl rfl (Sl rfl) .nil)))))) (Od rfl rfl (C0 (fr:=[]) rfl rfl (hre) fok45 (.cons rfl (.pure rfl) .nil) rfl) (qM rfl rfl (qX rfl rfl rfl (qX rfl rfl rfl (qF rfl rfl ty26 rfl rfl (qS rfl rfl rfl rfl rfl ty24 rfl rfl (Sl rfl) (Nl ⟨by kernel_rfl,?_⟩))))))))))))))))))))))))))))))))))))))))))))))))))))))))
            intro yJ KJ hJ
            refine W.renameJ [(0,0),(1,2),(2,3)] 3 (by decide) ?_ ?_ (hJ (((⟨[w0,w1,w2,w3,w4,w5],[s0,s1,s2,s3,s4,s5],0,34525,B⟩:Fr)),c4) (show FrG ((⟨[w0,w1,w2,w3,w4,w5],[s0,s1,s2,s3,s4,s5],0,34525,B⟩:Fr)) from .mk6 ⟨rfl,wB⟩ ⟨rfl,sB⟩ ⟨oB,by omega⟩))
            · (repeat' (first|exact LookR.nil|refine LookR.cons ?_ ?_))<;>first|exact .inl ⟨rfl,rfl⟩|exact .inr ⟨rfl,fun _ h=>by cases h⟩|exact .inl ⟨rfl,by first|rfl|assumption ⟩
            · (repeat' (first|exact all_mt|refine all_up ?_ ?_))<;>first|exact ⟨rfl,_,rfl,.inr ⟨rfl,rfl⟩⟩|exact ⟨rfl,_,rfl,.inl rfl⟩|exact ⟨rfl,_,rfl,.inr ⟨rfl,by first|rfl|assumption ⟩⟩
          case' true =>
            obtain ⟨_,_,hM,g2,c2,hg2,rfl,rfl⟩:=nbM_any l b1 r to _ hr hto hf0 hl
            refine Wq (qW 69 71 rfl rfl rfl (qM rfl rfl (Od rfl rfl (C1 (fr:=[]) rfl rfl (n5) fok20 (.own rfl rfl (.cons rfl (.pure rfl) .nil)) rfl rfl rfl (Cn _ _) (by decide) rfl) (Nl (Wb (Wq (qW 75 77 rfl rfl rfl (qE rfl rfl rfl (qA rfl rfl (Nl (Wf rfl ‹_› (Wq (Wq (qW 104 106 rfl rfl rfl (qE rfl rfl rfl (qA rfl rfl (Nl (Wf rfl ‹_› (qW 110 112 rfl rfl rfl (qE rfl rfl rfl (qA rfl rfl (Nl (Wf rfl ‹_› (Wq (qW 124 126 rfl rfl rfl (qE rfl rfl rfl (qA rfl rfl (Nl (Wt rfl ‹_› (qW 130 134 rfl rfl rfl (qM rfl rfl (qG rfl rfl rfl ty35 rfl (Tl rfl) (qG rfl rfl rfl ty35 rfl (Tl rfl) (Od rfl rfl (LO.call2 (fr:=[]) (q0:=0) (q1:=3) rfl rfl hM fok50 (.own 0 rfl rfl (.cons rfl (.pure rfl) (.cons rfl (.pure rfl) (.own 1 rfl rfl .nil)))) (by decide) (by decide) (by decide) rfl rfl rfl (fr_pure _) rfl (fr_pure _) (Cn _ _) (Cn _ _) rfl) (Nl ?_)))))))))))))))))))))))))))))))))))
            intro yJ KJ hJ
            refine W.renameJ [(0,0),(1,2),(2,3)] 3 (by decide) ?_ ?_ (hJ (g2,c2) (show FrG g2 from hg2))
            · (repeat' (first|exact LookR.nil|refine LookR.cons ?_ ?_))<;>first|exact .inl ⟨rfl,rfl⟩|exact .inr ⟨rfl,fun _ h=>by cases h⟩|exact .inl ⟨rfl,by first|rfl|assumption|exact (fr_pure _)⟩
            · (repeat' (first|exact all_mt|refine all_up ?_ ?_))<;>first|exact ⟨rfl,_,rfl,.inr ⟨rfl,rfl⟩⟩|exact ⟨rfl,_,rfl,.inl rfl⟩|exact ⟨rfl,_,rfl,.inr ⟨rfl,by first|rfl|assumption|exact (fr_pure _)⟩⟩
        case' true =>
          obtain ⟨_,_,hM,g2,c2,hg2,rfl,rfl⟩:=arpM_any l b1 r to _ hr hto hf0 hl
          refine Wq (qW 69 71 rfl rfl rfl (qM rfl rfl (Od rfl rfl (C1 (fr:=[]) rfl rfl (n5) fok20 (.own rfl rfl (.cons rfl (.pure rfl) .nil)) rfl rfl rfl (Cn _ _) (by decide) rfl) (Nl (Wb (Wq (qW 75 77 rfl rfl rfl (qE rfl rfl rfl (qA rfl rfl (Nl (Wf rfl ‹_› (Wq (Wq (qW 104 106 rfl rfl rfl (qE rfl rfl rfl (qA rfl rfl (Nl (Wf rfl ‹_› (qW 110 112 rfl rfl rfl (qE rfl rfl rfl (qA rfl rfl (Nl (Wt rfl ‹_› (qW 116 120 rfl rfl rfl (qM rfl rfl (qG rfl rfl rfl ty35 rfl (Tl rfl) (qG rfl rfl rfl ty35 rfl (Tl rfl) (Od rfl rfl (LO.call2 (fr:=[]) (q0:=0) (q1:=3) rfl rfl hM fok49 (.own 0 rfl rfl (.cons rfl (.pure rfl) (.cons rfl (.pure rfl) (.own 1 rfl rfl .nil)))) (by decide) (by decide) (by decide) rfl rfl rfl (fr_pure _) rfl (fr_pure _) (Cn _ _) (Cn _ _) rfl) (Nl ?_)))))))))))))))))))))))))))))
          intro yJ KJ hJ
          refine W.renameJ [(0,0),(1,2),(2,3)] 3 (by decide) ?_ ?_ (hJ (g2,c2) (show FrG g2 from hg2))
          · (repeat' (first|exact LookR.nil|refine LookR.cons ?_ ?_))<;>first|exact .inl ⟨rfl,rfl⟩|exact .inr ⟨rfl,fun _ h=>by cases h⟩|exact .inl ⟨rfl,by first|rfl|assumption|exact (fr_pure _)⟩
          · (repeat' (first|exact all_mt|refine all_up ?_ ?_))<;>first|exact ⟨rfl,_,rfl,.inr ⟨rfl,rfl⟩⟩|exact ⟨rfl,_,rfl,.inl rfl⟩|exact ⟨rfl,_,rfl,.inr ⟨rfl,by first|rfl|assumption|exact (fr_pure _)⟩⟩
      case' true =>
        obtain ⟨_,_,hM,g2,c2,hg2,rfl,rfl⟩:=arpM_any l b1 r to _ hr hto hf0 hl
        refine Wq (qW 69 71 rfl rfl rfl (qM rfl rfl (Od rfl rfl (C1 (fr:=[]) rfl rfl (n5) fok20 (.own rfl rfl (.cons rfl (.pure rfl) .nil)) rfl rfl rfl (Cn _ _) (by decide) rfl) (Nl (Wb (Wq (qW 75 77 rfl rfl rfl (qE rfl rfl rfl (qA rfl rfl (Nl (Wf rfl ‹_› (Wq (Wq (qW 104 106 rfl rfl rfl (qE rfl rfl rfl (qA rfl rfl (Nl (Wt rfl ‹_› (Wk (Wt rfl ‹_› (qW 116 120 rfl rfl rfl (qM rfl rfl (qG rfl rfl rfl ty35 rfl (Tl rfl) (qG rfl rfl rfl ty35 rfl (Tl rfl) (Od rfl rfl (LO.call2 (fr:=[]) (q0:=0) (q1:=3) rfl rfl hM fok49 (.own 0 rfl rfl (.cons rfl (.pure rfl) (.cons rfl (.pure rfl) (.own 1 rfl rfl .nil)))) (by decide) (by decide) (by decide) rfl rfl rfl (fr_pure _) rfl (fr_pure _) (Cn _ _) (Cn _ _) rfl) (Nl ?_))))))))))))))))))))))))))
        intro yJ KJ hJ
        refine W.renameJ [(0,0),(1,2),(2,3)] 3 (by decide) ?_ ?_ (hJ (g2,c2) (show FrG g2 from hg2))
        · (repeat' (first|exact LookR.nil|refine LookR.cons ?_ ?_))<;>first|exact .inl ⟨rfl,rfl⟩|exact .inr ⟨rfl,fun _ h=>by cases h⟩|exact .inl ⟨rfl,by first|rfl|assumption|exact (fr_pure _)⟩
        · (repeat' (first|exact all_mt|refine all_up ?_ ?_))<;>first|exact ⟨rfl,_,rfl,.inr ⟨rfl,rfl⟩⟩|exact ⟨rfl,_,rfl,.inl rfl⟩|exact ⟨rfl,_,rfl,.inr ⟨rfl,by first|rfl|assumption|exact (fr_pure _)⟩⟩
    case' true =>
      have n1:=next_any l b1 9 (by decide) (by decide) hl
      have c1b:=nextV_bd l b1 9 (by decide)
      generalize nextV l b1 9=x1 at *
      generalize nextAt l b1=c1 at *
      obtain ⟨_,_,h4,x2,c2,hx2,rfl,rfl⟩:=dfour_any l c1 hl
      obtain ⟨q,hq,hqb⟩:=nat_of (nextV_bd l c2 3 (by decide))
      have n8:=next_any l c2 3 (by decide) (by decide) hl
      rw [hq] at n8
      generalize nextAt l c2=c3 at *
      have hsl:([.base (.int .i64 1),.base (.int .i64 6),.base (.int .i64 17)]:List AV)[0 + q * 1]?=some (.base (.int .i64 (if q=0 then 1 else if q=1 then 6 else 17))):=by
        match q,hqb with
        | 0,_=>rfl
        | 1,_=>rfl
        | 2,_=>rfl
        | k + 3,h=>omega
      generalize (if q=0 then (1:Int) else if q=1 then 6 else 17)=pr at *
      obtain ⟨_,_,hby,L,c4,⟨LB,Ll⟩,rfl,rfl⟩:=dbytes_any l c3 20 (by decide) hl
      have u1:=(fourA_ok (n:=x1) (by omega) (by omega)).2
      have hre:=renc_any ⟨fourA x1,x2,pr,64,L⟩ u1.1 u1.2 hx2.2.1 hx2.2.2 LB
      obtain ⟨oB,oL⟩:=encL2_ok ⟨fourA x1,x2,pr,64,L⟩ LB
      dsimp only at oL
      unfold ecV at hre
      generalize encL2 ⟨fourA x1,x2,pr,64,L⟩=B at *
      generalize encE ⟨fourA x1,x2,pr,64,L⟩=be at *
      refine Wq (qW 69 71 rfl rfl rfl (qM rfl rfl (Od rfl rfl (C1 (fr:=[]) rfl rfl (n5) fok20 (.own rfl rfl (.cons rfl (.pure rfl) .nil)) rfl rfl rfl (Cn _ _) (by decide) rfl) (Nl (Wb (Wq (qW 75 77 rfl rfl rfl (qE rfl rfl rfl (qA rfl rfl (Nl (Wt rfl ‹_› (Wd 81 100 (by decide) rfl mixed rfl (qM rfl rfl (Od rfl rfl (C1 (fr:=[]) rfl rfl (n1) fok20 (.own rfl rfl (.cons rfl (.pure rfl) .nil)) rfl rfl rfl (Cn _ _) (by decide) rfl) (Od rfl rfl (C0 (fr:=[]) rfl rfl (fourM_any x1 (by omega) (by omega)) fok46 (.cons rfl (.pure rfl) .nil) rfl) (qM rfl rfl (Od rfl rfl (C1 (fr:=[]) rfl rfl (h4) fok47 (.own rfl rfl .nil) rfl rfl rfl (Cn _ _) (by decide) rfl) (Od rfl rfl (LO.buildSlice rfl ty27 ty3 (by decide) (by decide) (.cons rfl rfl rfl rfl (Sl rfl) (.cons rfl rfl rfl rfl (Sl rfl) (.cons rfl rfl rfl rfl (Sl rfl) .nil)))) (qM rfl rfl (Od rfl rfl (C1 (fr:=[]) rfl rfl (n8) fok20 (.own rfl rfl (.cons rfl (.pure rfl) .nil)) rfl rfl rfl (Cn _ _) (by decide) rfl) (Od rfl rfl (Ia rfl rfl rfl rfl ty27 ty3 (by first|omega|decide|assumption|(simp;done)|(simp;omega))) (qL rfl rfl rfl hsl ty3 rfl (qM rfl rfl (Od rfl rfl (C1 (fr:=[]) rfl rfl (hby) fok48 (.own rfl rfl (.cons rfl (.pure rfl) .nil)) rfl rfl rfl (Cn _ _) (by decide) rfl) (Od rfl rfl (Bs rfl ty74 (.cons rfl rfl rfl rfl (Sl rfl) (.cons rfl rfl rfl rfl (Sl rfl) (.cons rfl rfl rfl rfl (Sl rfl) (.cons rfl rfl rfl rfl (Sl rfl) (.cons rfl rfl rfl rfl (Sl rfl) .nil)))))) (Od rfl rfl (C0 (fr:=[]) rfl rfl (hre) fok45 (.cons rfl (.pure rfl) .nil) rfl) (qM rfl rfl (qX rfl rfl rfl (qX rfl rfl rfl (qF rfl rfl ty26 rfl rfl (qS rfl rfl rfl rfl rfl ty24 rfl rfl (Sl rfl) (Nl ⟨by kernel_rfl,?_⟩))))))))))))))))))))))))))))))))
      intro yJ KJ hJ
      refine W.renameJ [(0,0),(1,2),(2,3)] 3 (by decide) ?_ ?_ (hJ (((⟨[w0,w1,w2,w3,w4,w5],[s0,s1,s2,s3,s4,s5],0,2048,B⟩:Fr)),c4) (show FrG ((⟨[w0,w1,w2,w3,w4,w5],[s0,s1,s2,s3,s4,s5],0,2048,B⟩:Fr)) from .mk6 ⟨rfl,wB⟩ ⟨rfl,sB⟩ ⟨oB,by omega⟩))
      · (repeat' (first|exact LookR.nil|refine LookR.cons ?_ ?_))<;>first|exact .inl ⟨rfl,rfl⟩|exact .inr ⟨rfl,fun _ h=>by cases h⟩|exact .inl ⟨rfl,by first|rfl|assumption ⟩
      · (repeat' (first|exact all_mt|refine all_up ?_ ?_))<;>first|exact ⟨rfl,_,rfl,.inr ⟨rfl,rfl⟩⟩|exact ⟨rfl,_,rfl,.inl rfl⟩|exact ⟨rfl,_,rfl,.inr ⟨rfl,by first|rfl|assumption ⟩⟩
  have g6:=hIK.ok.d6
  have t6:=hIK.ok.s6
  obtain ⟨_,_,hodd,g2,c2,hg2,rfl,rfl⟩:=oddM_any l c g hIK hl
  obtain ⟨gd,gs,gv,gt,gx⟩:=g
  dsimp only at g6 t6
  obtain ⟨u0,u1,u2,u3,u4,u5,rfl⟩:=six_of g6
  obtain ⟨y0,y1,y2,y3,y4,y5,rfl⟩:=six_of t6
  have p6:=hg2.ok.d6
  have q6:=hg2.ok.s6
  obtain ⟨pd,ps,pv,pt,px⟩:=g2
  dsimp only at p6 q6
  obtain ⟨p0,p1,p2,p3,p4,p5,rfl⟩:=six_of p6
  obtain ⟨q0,q1,q2,q3,q4,q5,rfl⟩:=six_of q6
  refine Wq (qW 168 172 rfl rfl rfl (qM rfl rfl (qG rfl rfl rfl ty26 rfl (Tl rfl) (Od rfl rfl (C1 (fr:=[]) rfl rfl (hodd) fok52 (.own rfl rfl (.cons rfl (.pure rfl) .nil)) rfl rfl rfl (Cn _ _) (by decide) rfl) (qS rfl rfl rfl rfl rfl ty26 rfl rfl (Sl rfl) (Nl ?_))))))
  refine W.ret ⟨.inl rfl,_,up mt 0 (some (deckC l c2)),(RVs.cons (RV.cellA rfl rfl ty26 rfl (Tk.lit rfl)) RVs.nil),(by (repeat' (first|exact all_mt|refine all_up ?_ ?_))<;>rfl),?_⟩
  exact ⟨_,c2,hg2,rfl,rfl⟩
end Go.Proofs.YtcidmiacfjdepaaGreatDoor
namespace Go.Proofs.YtcidmiacfjdepaaGreatDoor
open Go.RowKit
theorem DbFine.rok {l:List Int} {d:Db} (h:DbFine l d) (g:Int→Int) (rate burst:Int):∀ r,r∈(allP d).map (ruleOf g rate burst)→RlOk r:=fun r hr=>by
  obtain ⟨p,hp,rfl⟩:=List.mem_map.1 hr
  obtain ⟨i,hi,rfl⟩:=List.getElem_of_mem hp
  have hl:=h.len
  have hg:=h.good i hi
  have ho:=hg.ok (by omega) (by omega)
  obtain ⟨e1,e2⟩:=v4_ok hg (by omega) (by omega)
  generalize (allP d)[i]=p at *
  have h1:=ad1_len p.v4
  have h2:=ad1_len p.v6
  have hnm:=ho.nm
  refine ⟨⟨hnm.1,by dsimp only [ruleOf];omega⟩,fun m hm=>⟨(ho.macs m hm).1,(ho.macs m hm).2.1⟩,by dsimp only [ruleOf];omega,fun a ha=>?_,by dsimp only [ruleOf];omega,fun a ha=>?_⟩
  · dsimp only [ruleOf] at ha
    unfold ad1 at ha
    split at ha
    · simp at ha
    · simp at ha;rw [ha];exact ⟨e1,e2⟩
  · dsimp only [ruleOf] at ha
    unfold ad1 at ha
    split at ha
    · simp at ha
    · rename_i hz
      simp at ha
      rw [ha]
      rcases hg.a with ⟨_,e⟩|⟨_,e⟩|⟨_,e⟩
      · rw [e] at hz;exact absurd rfl hz
      · rw [e];exact sixA_ok (by omega) (by omega)
      · rw [e];exact sixA_ok (by omega) (by omega)
/-- two frames that are the same -/
theorem same_refl (f:Fr) (hf:FrOk f):AFn Tryz.prog 12 0 [.agg (frC f),.agg (frC f)] mt (.base (.bool true)) mt:=by
  refine AFn.eq Tryz.func12 rfl rfl (Nat.le_of_ble_eq_true rfl) ?_
  obtain ⟨fd,fs,fv,ft,fx⟩:=f
  have p6:=hf.d6
  have q6:=hf.s6
  dsimp only at p6 q6
  obtain ⟨p0,p1,p2,p3,p4,p5,rfl⟩:=six_of p6
  obtain ⟨q0,q1,q2,q3,q4,q5,rfl⟩:=six_of q6
  have k1:decide (([p0,p1,p2,p3,p4,p5]:List Int)=[p0,p1,p2,p3,p4,p5])=true:=decide_eq_true rfl
  have k2:decide (([q0,q1,q2,q3,q4,q5]:List Int)=[q0,q1,q2,q3,q4,q5])=true:=decide_eq_true rfl
  have k3:(fv == fv)=true:=by simp
  have k4:(ft == ft)=true:=by simp
  have k5:((strOfNums fx).toList == (strOfNums fx).toList)=true:=by simp
  refine Wq (qW 0 3 rfl rfl rfl (qC rfl rfl rfl (qC rfl rfl rfl (qA rfl rfl (Nl (Wq (qW 7 43 rfl rfl rfl (qF rfl rfl ty26 rfl rfl (qG rfl rfl rfl ty23 rfl (Tl rfl) (qF rfl rfl ty26 rfl rfl (qG rfl rfl rfl ty23 rfl (Tl rfl) (Od rfl rfl (LO.eql_mac [p0,p1,p2,p3,p4,p5] [p0,p1,p2,p3,p4,p5] rfl rfl rfl rfl rfl) (qM rfl rfl (Gd rfl rfl rfl ‹_› rfl (Fa rfl rfl ty26 rfl (by decide)) (Gd rfl rfl rfl ‹_› rfl (La rfl rfl rfl ty23 rfl (Tl rfl)) (Gd rfl rfl rfl ‹_› rfl (Fa rfl rfl ty26 rfl (by decide)) (Gd rfl rfl rfl ‹_› rfl (La rfl rfl rfl ty23 rfl (Tl rfl)) (Gd rfl rfl rfl ‹_› rfl (LO.eql_mac [q0,q1,q2,q3,q4,q5] [q0,q1,q2,q3,q4,q5] rfl rfl rfl rfl rfl) (qT rfl rfl ‹_› rfl (qM rfl rfl (Gd rfl rfl rfl ‹_› rfl (Fa rfl rfl ty26 rfl (by decide)) (Gd rfl rfl rfl ‹_› rfl (Ld rfl rfl rfl rfl ty3 rfl) (Gd rfl rfl rfl ‹_› rfl (Fa rfl rfl ty26 rfl (by decide)) (Gd rfl rfl rfl ‹_› rfl (Ld rfl rfl rfl rfl ty3 rfl) (Gd rfl rfl rfl ‹_› rfl (Eq0 rfl rfl rfl) (qT rfl rfl ‹_› rfl (qM rfl rfl (Gd rfl rfl rfl ‹_› rfl (Fa rfl rfl ty26 rfl (by decide)) (Gd rfl rfl rfl ‹_› rfl (Ld rfl rfl rfl rfl ty3 rfl) (Gd rfl rfl rfl ‹_› rfl (Fa rfl rfl ty26 rfl (by decide)) (Gd rfl rfl rfl ‹_› rfl (Ld rfl rfl rfl rfl ty3 rfl) (Gd rfl rfl rfl ‹_› rfl (Eq0 rfl rfl rfl) (qT rfl rfl ‹_› rfl (qM rfl rfl (Gd rfl rfl rfl ‹_› rfl (Fa rfl rfl ty26 rfl (by decide)) (Gd rfl rfl rfl ‹_› rfl (Ld rfl rfl rfl rfl ty24 rfl) (Gd rfl rfl rfl ‹_› rfl (LO.str (xs:=fx) rfl rfl Tryz.underlying24 Tryz.underlying5 Tryz.underlying9) (Gd rfl rfl rfl ‹_› rfl (Fa rfl rfl ty26 rfl (by decide)) (Gd rfl rfl rfl ‹_› rfl (Ld rfl rfl rfl rfl ty24 rfl) (Gd rfl rfl rfl ‹_› rfl (LO.str (xs:=fx) rfl rfl Tryz.underlying24 Tryz.underlying5 Tryz.underlying9) (Gd rfl rfl rfl ‹_› rfl (LO.eql_str rfl rfl rfl) (qT rfl rfl ‹_› rfl (qA rfl rfl (Nl (Wz ⟨.inl rfl,_,mt,Rc (Rt rfl) (Rn),all_mt,?_⟩)))))))))))))))))))))))))))))))))))))))))))))
  exact ⟨by rw [k5];rfl,rfl⟩
end Go.Proofs.YtcidmiacfjdepaaGreatDoor
namespace Go.Proofs.YtcidmiacfjdepaaGreatDoor
open Go.RowKit
theorem andNot_even:∀ x:Fin 256,(bitV .and .u8 (bitV .andNot .u8 (x.val:Int) 1) 1 == 1)=false:=by decide +kernel
theorem even_grp {x:Int} (h:0≤x∧x≤255) (r:List Int):grpE (bitV .andNot .u8 x 1::r)=false:=by
  have:=andNot_even ⟨x.toNat,by omega⟩
  have e:((x.toNat:Nat):Int)=x:=by omega
  dsimp only at this
  rw [e] at this
  exact this
theorem grp_same:∀ x:Fin 256,(bitV .and .u8 (x.val:Int) 1 == 1)=((x.val:Int) % 2 == 1):=by decide +kernel
theorem grp_eq {x:Int} (h:0≤x∧x≤255) (r:List Int):grpM (x::r)=grpE (x::r):=by
  have:=grp_same ⟨x.toNat,by omega⟩
  have e:((x.toNat:Nat):Int)=x:=by omega
  dsimp only at this
  rw [e] at this
  exact this.symm
end Go.Proofs.YtcidmiacfjdepaaGreatDoor
