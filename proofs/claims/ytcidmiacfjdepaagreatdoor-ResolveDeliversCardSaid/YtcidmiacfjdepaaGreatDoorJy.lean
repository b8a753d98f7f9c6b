/-
  Frames that are changed now and then.
-/
import Derived.Test.YtcidmiacfjdepaaGreatDoorJx
import Derived.Test.YtcidmiacfjdepaaGreatDoorRe
import Derived.Test.YtcidmiacfjdepaaGreatDoorMab
namespace Go.Proofs.YtcidmiacfjdepaaGreatDoor
open Go.RowKit
theorem zeros_bytes (n:Nat):zerosL n [.base (.int .u8 0)]=bytesC (List.replicate n 0):=by
  unfold zerosL bytesC
  rw [List.map_replicate]
  refine List.ext_getElem (by simp) fun k h1 h2=>?_
  simp
theorem isB6 {a b c d e:Int} (h:(0≤a∧a≤255)∧(0≤b∧b≤255)∧(0≤c∧c≤255)∧(0≤d∧d≤255)∧(0≤e∧e≤255)) (q:Int):IsB [a,b,c,d,e,IntKind.u8.wrap q]:=fun x hx=>by
  have:=u8_bd q
  simp only [List.mem_cons,List.not_mem_nil,or_false] at hx
  rcases hx with rfl|rfl|rfl|rfl|rfl|rfl<;>omega
set_option maxHeartbeats 8000000 in
theorem oddM_any (l:List Int) (at_:Nat) (f:Fr) (hf:FrG f) (hl:l.length≤9223372036854775807) :
    ∃ v H',AFn Tryz.prog 52 1 [.own 0 0,.agg (frC f)] (up mt 0 (some (deckC l at_))) v H' ∧
      ∃ (g:Fr) (at':Nat),FrY g∧v=.agg (frC g)∧H'=up mt 0 (some (deckC l at')):=by
  refine AFn.ex Tryz.func52 rfl rfl (Nat.le_of_ble_eq_true rfl) ?_
  obtain ⟨dst,src,vl,ty,data⟩:=f
  have d6:=hf.ok.d6
  have s6:=hf.ok.s6
  have dB:=hf.dB
  have sB:=hf.sB
  have bB:=hf.ok.bB
  have bl:data.length≤99999:=Nat.le_succ_of_le hf.dl
  have hfl:=hf.dl
  clear hf
  dsimp only at d6 s6 dB sB bB bl hfl
  obtain ⟨d0,d1,d2,d3,d4,d5,rfl⟩:=six_of d6
  obtain ⟨s0,s1,s2,s3,s4,s5,rfl⟩:=six_of s6
  have e1:=next_any l at_ 20 (by decide) (by decide) hl
  generalize nextV l at_ 20=e at *
  generalize nextAt l at_=a1 at *
  refine Wq (qW 1 3 rfl rfl rfl (qC rfl rfl rfl (qB rfl ty26 (Nl (Wq (W.joinK (α:=Fr × Nat) 3 (fun x=>[(0,.own 0 0),(3,.own 1 0),(4,.own 2 0)]) (fun x=>up (up (up mt 0 (some (deckC l x.2))) 1 (some (frC x.1))) 2 (some ([.base (.int .u8 0),.base (.int .u8 0),.base (.int .u8 0),.base (.int .u8 0),.base (.int .u8 0),.base (.int .u8 0),.base (.int .u8 0),.base (.int .u8 0),.base (.int .u8 0),.base (.int .u8 0),.base (.int .u8 0),.base (.int .u8 0),.base (.int .i64 0),.base (.int .i64 0),.nils]))) (fun x=>FrY x.1) .nil ?_ ?_))))))
  rotate_left
  rintro ⟨g,b⟩ hIJ
  try (dsimp only at hIJ)
  try dsimp only [joinT,baseT,List.cons_append,List.nil_append]
  rotate_right
  ·
    by_cases k10:(e == 10)=true
    case' pos =>
      have m1:=next_any l a1 300 (by decide) (by decide) hl
      generalize nextV l a1 300=q at *
      generalize nextAt l a1=a2 at *
      refine Wq (qW 7 9 rfl rfl rfl (qM rfl rfl (Od rfl rfl (C1 (fr:=[]) rfl rfl (e1) fok20 (.own rfl rfl (.cons rfl (.pure rfl) .nil)) rfl rfl rfl (Cn _ _) (by decide) rfl) (Nl (Wb (Wq (qW 13 15 rfl rfl rfl (qE rfl rfl rfl (qA rfl rfl (Nl (Wt rfl ‹_› (qW 19 24 rfl rfl rfl (qM rfl rfl (Od rfl rfl (C1 (fr:=[]) rfl rfl (m1) fok20 (.own rfl rfl (.cons rfl (.pure rfl) .nil)) rfl rfl rfl (Cn _ _) (by decide) rfl) (Od rfl rfl (C0 (fr:=[]) rfl rfl (mac_any q) fok76 (.cons rfl (.pure rfl) .nil) rfl) (qF rfl rfl ty26 rfl rfl (qS rfl rfl rfl rfl rfl ty23 rfl rfl (Sl rfl) (Nl ?_))))))))))))))))))
      intro yJ KJ hJ
      refine W.renameJ [(0,0),(1,1),(2,2)] 3 (by decide) ?_ ?_ (hJ (((⟨[d0,d1,d2,d3,d4,d5],macF q,vl,ty,data⟩:Fr)),a2) (show FrY ((⟨[d0,d1,d2,d3,d4,d5],macF q,vl,ty,data⟩:Fr)) from .mk6 ⟨rfl,dB⟩ ⟨rfl,macF_isB q⟩ ⟨bB,bl⟩))
      · (repeat' (first|exact LookR.nil|refine LookR.cons ?_ ?_))<;>first|exact .inl ⟨rfl,rfl⟩|exact .inr ⟨rfl,fun _ h=>by cases h⟩|exact .inl ⟨rfl,by first|rfl|assumption|exact (bytesC_pure _)⟩
      · (repeat' (first|exact all_mt|refine all_up ?_ ?_))<;>first|exact ⟨rfl,_,rfl,.inr ⟨rfl,rfl⟩⟩|exact ⟨rfl,_,rfl,.inl rfl⟩|exact ⟨rfl,_,rfl,.inr ⟨rfl,by first|rfl|assumption|exact (bytesC_pure _)⟩⟩
    case' neg =>
      have k10:(e == 10)=false:=by simpa using k10
      by_cases k11:(e == 11)=true
      case' pos =>
        have m1:=next_any l a1 4094 (by decide) (by decide) hl
        have mb:=nextV_bd l a1 4094 (by decide)
        generalize nextV l a1 4094=q at *
        generalize nextAt l a1=a2 at *
        refine Wq (qW 7 9 rfl rfl rfl (qM rfl rfl (Od rfl rfl (C1 (fr:=[]) rfl rfl (e1) fok20 (.own rfl rfl (.cons rfl (.pure rfl) .nil)) rfl rfl rfl (Cn _ _) (by decide) rfl) (Nl (Wb (Wq (qW 13 15 rfl rfl rfl (qE rfl rfl rfl (qA rfl rfl (Nl (Wf rfl ‹_› (Wq (qW 28 30 rfl rfl rfl (qE rfl rfl rfl (qA rfl rfl (Nl (Wt rfl ‹_› (qW 34 39 rfl rfl rfl (qM rfl rfl (Od rfl rfl (C1 (fr:=[]) rfl rfl (m1) fok20 (.own rfl rfl (.cons rfl (.pure rfl) .nil)) rfl rfl rfl (Cn _ _) (by decide) rfl) (qZ rfl rfl rfl (by (first|exact IntWalk.i64_in _ (by omega)|assumption)) (qF rfl rfl ty26 rfl rfl (qS rfl rfl rfl rfl rfl ty3 rfl rfl (Sl rfl) (Nl ?_))))))))))))))))))))))))
        intro yJ KJ hJ
        refine W.renameJ [(0,0),(1,1),(2,2)] 3 (by decide) ?_ ?_ (hJ (((⟨[d0,d1,d2,d3,d4,d5],[s0,s1,s2,s3,s4,s5],1 + q,ty,data⟩:Fr)),a2) (show FrY ((⟨[d0,d1,d2,d3,d4,d5],[s0,s1,s2,s3,s4,s5],1 + q,ty,data⟩:Fr)) from .mk6 ⟨rfl,dB⟩ ⟨rfl,sB⟩ ⟨bB,bl⟩))
        · (repeat' (first|exact LookR.nil|refine LookR.cons ?_ ?_))<;>first|exact .inl ⟨rfl,rfl⟩|exact .inr ⟨rfl,fun _ h=>by cases h⟩|exact .inl ⟨rfl,by first|rfl|assumption|exact (bytesC_pure _)⟩
        · (repeat' (first|exact all_mt|refine all_up ?_ ?_))<;>first|exact ⟨rfl,_,rfl,.inr ⟨rfl,rfl⟩⟩|exact ⟨rfl,_,rfl,.inl rfl⟩|exact ⟨rfl,_,rfl,.inr ⟨rfl,by first|rfl|assumption|exact (bytesC_pure _)⟩⟩
      case' neg =>
        have k11:(e == 11)=false:=by simpa using k11
        by_cases k12:(e == 12)=true
        case' pos =>
          have m1:=next_any l a1 60000 (by decide) (by decide) hl
          have mb:=nextV_bd l a1 60000 (by decide)
          generalize nextV l a1 60000=q at *
          generalize nextAt l a1=a2 at *
          refine Wq (qW 7 9 rfl rfl rfl (qM rfl rfl (Od rfl rfl (C1 (fr:=[]) rfl rfl (e1) fok20 (.own rfl rfl (.cons rfl (.pure rfl) .nil)) rfl rfl rfl (Cn _ _) (by decide) rfl) (Nl (Wb (Wq (qW 13 15 rfl rfl rfl (qE rfl rfl rfl (qA rfl rfl (Nl (Wf rfl ‹_› (Wq (qW 28 30 rfl rfl rfl (qE rfl rfl rfl (qA rfl rfl (Nl (Wf rfl ‹_› (Wq (qW 43 45 rfl rfl rfl (qE rfl rfl rfl (qA rfl rfl (Nl (Wt rfl ‹_› (qW 49 54 rfl rfl rfl (qM rfl rfl (Od rfl rfl (C1 (fr:=[]) rfl rfl (m1) fok20 (.own rfl rfl (.cons rfl (.pure rfl) .nil)) rfl rfl rfl (Cn _ _) (by decide) rfl) (qZ rfl rfl rfl (by (first|exact IntWalk.i64_in _ (by omega)|assumption)) (qF rfl rfl ty26 rfl rfl (qS rfl rfl rfl rfl rfl ty3 rfl rfl (Sl rfl) (Nl ?_))))))))))))))))))))))))))))))
          intro yJ KJ hJ
          refine W.renameJ [(0,0),(1,1),(2,2)] 3 (by decide) ?_ ?_ (hJ (((⟨[d0,d1,d2,d3,d4,d5],[s0,s1,s2,s3,s4,s5],vl,1536 + q,data⟩:Fr)),a2) (show FrY ((⟨[d0,d1,d2,d3,d4,d5],[s0,s1,s2,s3,s4,s5],vl,1536 + q,data⟩:Fr)) from .mk6 ⟨rfl,dB⟩ ⟨rfl,sB⟩ ⟨bB,bl⟩))
          · (repeat' (first|exact LookR.nil|refine LookR.cons ?_ ?_))<;>first|exact .inl ⟨rfl,rfl⟩|exact .inr ⟨rfl,fun _ h=>by cases h⟩|exact .inl ⟨rfl,by first|rfl|assumption|exact (bytesC_pure _)⟩
          · (repeat' (first|exact all_mt|refine all_up ?_ ?_))<;>first|exact ⟨rfl,_,rfl,.inr ⟨rfl,rfl⟩⟩|exact ⟨rfl,_,rfl,.inl rfl⟩|exact ⟨rfl,_,rfl,.inr ⟨rfl,by first|rfl|assumption|exact (bytesC_pure _)⟩⟩
        case' neg =>
          have k12:(e == 12)=false:=by simpa using k12
          by_cases k13:(e == 13)=true
          case' pos =>
            have m1:=next_any l a1 32 (by decide) (by decide) hl
            generalize nextV l a1 32=q at *
            generalize nextAt l a1=a2 at *
            refine Wq (qW 7 9 rfl rfl rfl (qM rfl rfl (Od rfl rfl (C1 (fr:=[]) rfl rfl (e1) fok20 (.own rfl rfl (.cons rfl (.pure rfl) .nil)) rfl rfl rfl (Cn _ _) (by decide) rfl) (Nl (Wb (Wq (qW 13 15 rfl rfl rfl (qE rfl rfl rfl (qA rfl rfl (Nl (Wf rfl ‹_› (Wq (qW 28 30 rfl rfl rfl (qE rfl rfl rfl (qA rfl rfl (Nl (Wf rfl ‹_› (Wq (qW 43 45 rfl rfl rfl (qE rfl rfl rfl (qA rfl rfl (Nl (Wf rfl ‹_› (Wq (qW 58 60 rfl rfl rfl (qE rfl rfl rfl (qA rfl rfl (Nl (Wt rfl ‹_› (qW 64 70 rfl rfl rfl (qM rfl rfl (Od rfl rfl (C1 (fr:=[]) rfl rfl (m1) fok20 (.own rfl rfl (.cons rfl (.pure rfl) .nil)) rfl rfl rfl (Cn _ _) (by decide) rfl) (Od rfl rfl (LO.conv rfl rfl ty3 ty5) (Od rfl rfl (LO.build_ar rfl ty23 ty5 (.cons rfl rfl rfl rfl (Sl rfl) (.cons rfl rfl rfl rfl (Sl rfl) (.cons rfl rfl rfl rfl (Sl rfl) (.cons rfl rfl rfl rfl (Sl rfl) (.cons rfl rfl rfl rfl (Sl rfl) (.cons rfl rfl rfl rfl (Sl rfl) .nil))))))) (qF rfl rfl ty26 rfl rfl (qS rfl rfl rfl rfl rfl ty23 rfl rfl (Sl rfl) (Nl ?_)))))))))))))))))))))))))))))))))))))
            intro yJ KJ hJ
            refine W.renameJ [(0,0),(1,1),(2,2)] 3 (by decide) ?_ ?_ (hJ (((⟨[1,128,194,0,0,IntKind.u8.wrap q],[s0,s1,s2,s3,s4,s5],vl,ty,data⟩:Fr)),a2) (show FrY ((⟨[1,128,194,0,0,IntKind.u8.wrap q],[s0,s1,s2,s3,s4,s5],vl,ty,data⟩:Fr)) from .mk6 ⟨rfl,isB6 (by decide) q⟩ ⟨rfl,sB⟩ ⟨bB,bl⟩))
            · (repeat' (first|exact LookR.nil|refine LookR.cons ?_ ?_))<;>first|exact .inl ⟨rfl,rfl⟩|exact .inr ⟨rfl,fun _ h=>by cases h⟩|exact .inl ⟨rfl,by first|rfl|assumption|exact (bytesC_pure _)⟩
            · (repeat' (first|exact all_mt|refine all_up ?_ ?_))<;>first|exact ⟨rfl,_,rfl,.inr ⟨rfl,rfl⟩⟩|exact ⟨rfl,_,rfl,.inl rfl⟩|exact ⟨rfl,_,rfl,.inr ⟨rfl,by first|rfl|assumption|exact (bytesC_pure _)⟩⟩
          case' neg =>
            have k13:(e == 13)=false:=by simpa using k13
            by_cases k14:(e == 14)=true
            case' pos =>
              have m1:=next_any l a1 256 (by decide) (by decide) hl
              generalize nextV l a1 256=q at *
              generalize nextAt l a1=a2 at *
              refine Wq (qW 7 9 rfl rfl rfl (qM rfl rfl (Od rfl rfl (C1 (fr:=[]) rfl rfl (e1) fok20 (.own rfl rfl (.cons rfl (.pure rfl) .nil)) rfl rfl rfl (Cn _ _) (by decide) rfl) (Nl (Wb (Wq (qW 13 15 rfl rfl rfl (qE rfl rfl rfl (qA rfl rfl (Nl (Wf rfl ‹_› (Wq (qW 28 30 rfl rfl rfl (qE rfl rfl rfl (qA rfl rfl (Nl (Wf rfl ‹_› (Wq (qW 43 45 rfl rfl rfl (qE rfl rfl rfl (qA rfl rfl (Nl (Wf rfl ‹_› (Wq (qW 58 60 rfl rfl rfl (qE rfl rfl rfl (qA rfl rfl (Nl (Wf rfl ‹_› (Wq (qW 74 76 rfl rfl rfl (qE rfl rfl rfl (qA rfl rfl (Nl (Wt rfl ‹_› (qW 80 86 rfl rfl rfl (qM rfl rfl (Od rfl rfl (C1 (fr:=[]) rfl rfl (m1) fok20 (.own rfl rfl (.cons rfl (.pure rfl) .nil)) rfl rfl rfl (Cn _ _) (by decide) rfl) (Od rfl rfl (LO.conv rfl rfl ty3 ty5) (Od rfl rfl (LO.build_ar rfl ty23 ty5 (.cons rfl rfl rfl rfl (Sl rfl) (.cons rfl rfl rfl rfl (Sl rfl) (.cons rfl rfl rfl rfl (Sl rfl) (.cons rfl rfl rfl rfl (Sl rfl) (.cons rfl rfl rfl rfl (Sl rfl) (.cons rfl rfl rfl rfl (Sl rfl) .nil))))))) (qF rfl rfl ty26 rfl rfl (qS rfl rfl rfl rfl rfl ty23 rfl rfl (Sl rfl) (Nl ?_)))))))))))))))))))))))))))))))))))))))))))
              intro yJ KJ hJ
              refine W.renameJ [(0,0),(1,1),(2,2)] 3 (by decide) ?_ ?_ (hJ (((⟨[1,0,94,0,0,IntKind.u8.wrap q],[s0,s1,s2,s3,s4,s5],vl,ty,data⟩:Fr)),a2) (show FrY ((⟨[1,0,94,0,0,IntKind.u8.wrap q],[s0,s1,s2,s3,s4,s5],vl,ty,data⟩:Fr)) from .mk6 ⟨rfl,isB6 (by decide) q⟩ ⟨rfl,sB⟩ ⟨bB,bl⟩))
              · (repeat' (first|exact LookR.nil|refine LookR.cons ?_ ?_))<;>first|exact .inl ⟨rfl,rfl⟩|exact .inr ⟨rfl,fun _ h=>by cases h⟩|exact .inl ⟨rfl,by first|rfl|assumption|exact (bytesC_pure _)⟩
              · (repeat' (first|exact all_mt|refine all_up ?_ ?_))<;>first|exact ⟨rfl,_,rfl,.inr ⟨rfl,rfl⟩⟩|exact ⟨rfl,_,rfl,.inl rfl⟩|exact ⟨rfl,_,rfl,.inr ⟨rfl,by first|rfl|assumption|exact (bytesC_pure _)⟩⟩
            case' neg =>
              have k14:(e == 14)=false:=by simpa using k14
              by_cases k15:(e == 15)=true
              case' pos =>
                refine Wq (qW 7 9 rfl rfl rfl (qM rfl rfl (Od rfl rfl (C1 (fr:=[]) rfl rfl (e1) fok20 (.own rfl rfl (.cons rfl (.pure rfl) .nil)) rfl rfl rfl (Cn _ _) (by decide) rfl) (Nl (Wb (Wq (qW 13 15 rfl rfl rfl (qE rfl rfl rfl (qA rfl rfl (Nl (Wf rfl ‹_› (Wq (qW 28 30 rfl rfl rfl (qE rfl rfl rfl (qA rfl rfl (Nl (Wf rfl ‹_› (Wq (qW 43 45 rfl rfl rfl (qE rfl rfl rfl (qA rfl rfl (Nl (Wf rfl ‹_› (Wq (qW 58 60 rfl rfl rfl (qE rfl rfl rfl (qA rfl rfl (Nl (Wf rfl ‹_› (Wq (qW 74 76 rfl rfl rfl (qE rfl rfl rfl (qA rfl rfl (Nl (Wf rfl ‹_› (Wq (qW 90 92 rfl rfl rfl (qE rfl rfl rfl (qA rfl rfl (Nl (Wt rfl ‹_› (qW 96 99 rfl rfl rfl (Od rfl rfl (C0 (fr:=[]) rfl rfl (bcX_any) fok19 .nil rfl) (qF rfl rfl ty26 rfl rfl (qS rfl rfl rfl rfl rfl ty23 rfl rfl (Sl rfl) (Nl ?_))))))))))))))))))))))))))))))))))))))))))))))
                intro yJ KJ hJ
                refine W.renameJ [(0,0),(1,1),(2,2)] 3 (by decide) ?_ ?_ (hJ (((⟨bcM,[s0,s1,s2,s3,s4,s5],vl,ty,data⟩:Fr)),a1) (show FrY ((⟨bcM,[s0,s1,s2,s3,s4,s5],vl,ty,data⟩:Fr)) from .mk6 ⟨rfl,fun x hx=>by simp [bcM] at hx;omega⟩ ⟨rfl,sB⟩ ⟨bB,bl⟩))
                · (repeat' (first|exact LookR.nil|refine LookR.cons ?_ ?_))<;>first|exact .inl ⟨rfl,rfl⟩|exact .inr ⟨rfl,fun _ h=>by cases h⟩|exact .inl ⟨rfl,by first|rfl|assumption|exact (bytesC_pure _)⟩
                · (repeat' (first|exact all_mt|refine all_up ?_ ?_))<;>first|exact ⟨rfl,_,rfl,.inr ⟨rfl,rfl⟩⟩|exact ⟨rfl,_,rfl,.inl rfl⟩|exact ⟨rfl,_,rfl,.inr ⟨rfl,by first|rfl|assumption|exact (bytesC_pure _)⟩⟩
              case' neg =>
                have k15:(e == 15)=false:=by simpa using k15
                by_cases k16:(e == 16)=true
                case' pos =>
                  have m1:=next_any l a1 60 (by decide) (by decide) hl
                  have m2:=next_any l (nextAt l a1) 1024 (by decide) (by decide) hl
                  generalize nextV l a1 60=q at *
                  generalize nextV l (nextAt l a1) 1024=q2 at *
                  generalize nextAt l (nextAt l a1)=a3 at *
                  generalize nextAt l a1=a2 at *
                  obtain ⟨L,⟨LB,Ll⟩,hsp⟩:=spo_any data q q2 bB (by omega)
                  refine Wq (qW 7 9 rfl rfl rfl (qM rfl rfl (Od rfl rfl (C1 (fr:=[]) rfl rfl (e1) fok20 (.own rfl rfl (.cons rfl (.pure rfl) .nil)) rfl rfl rfl (Cn _ _) (by decide) rfl) (Nl (Wb (Wq (qW 13 15 rfl rfl rfl (qE rfl rfl rfl (qA rfl rfl (Nl (Wf rfl ‹_› (Wq (qW 28 30 rfl rfl rfl (qE rfl rfl rfl (qA rfl rfl (Nl (Wf rfl ‹_› (Wq (qW 43 45 rfl rfl rfl (qE rfl rfl rfl (qA rfl rfl (Nl (Wf rfl ‹_› (Wq (qW 58 60 rfl rfl rfl (qE rfl rfl rfl (qA rfl rfl (Nl (Wf rfl ‹_› (Wq (qW 74 76 rfl rfl rfl (qE rfl rfl rfl (qA rfl rfl (Nl (Wf rfl ‹_› (Wq (qW 90 92 rfl rfl rfl (qE rfl rfl rfl (qA rfl rfl (Nl (Wf rfl ‹_› (Wq (qW 103 105 rfl rfl rfl (qE rfl rfl rfl (qA rfl rfl (Nl (Wt rfl ‹_› (Wd 109 118 (by decide) rfl mixed rfl (qF rfl rfl ty26 rfl rfl (qL rfl rfl rfl rfl ty24 rfl (qM rfl rfl (Od rfl rfl (C1 (fr:=[]) rfl rfl (m1) fok20 (.own rfl rfl (.cons rfl (.pure rfl) .nil)) rfl rfl rfl (Cn _ _) (by decide) rfl) (qM rfl rfl (Od rfl rfl (C1 (fr:=[]) rfl rfl (m2) fok20 (.own rfl rfl (.cons rfl (.pure rfl) .nil)) rfl rfl rfl (Cn _ _) (by decide) rfl) (Od rfl rfl (C0 (fr:=[]) rfl rfl (hsp) fok7 (.cons rfl (.pure rfl) (.cons rfl (.pure rfl) (.cons rfl (.pure rfl) .nil))) rfl) (qF rfl rfl ty26 rfl rfl (qS rfl rfl rfl rfl rfl ty24 rfl rfl (Sl rfl) (Nl ⟨by kernel_rfl,?_⟩))))))))))))))))))))))))))))))))))))))))))))))))))))))))))
                  intro yJ KJ hJ
                  refine W.renameJ [(0,0),(1,1),(2,2)] 3 (by decide) ?_ ?_ (hJ (((⟨[d0,d1,d2,d3,d4,d5],[s0,s1,s2,s3,s4,s5],vl,ty,L⟩:Fr)),a3) (show FrY ((⟨[d0,d1,d2,d3,d4,d5],[s0,s1,s2,s3,s4,s5],vl,ty,L⟩:Fr)) from .mk6 ⟨rfl,dB⟩ ⟨rfl,sB⟩ ⟨LB,by omega⟩))
                  · (repeat' (first|exact LookR.nil|refine LookR.cons ?_ ?_))<;>first|exact .inl ⟨rfl,rfl⟩|exact .inr ⟨rfl,fun _ h=>by cases h⟩|exact .inl ⟨rfl,by first|rfl|assumption|exact (bytesC_pure _)⟩
                  · (repeat' (first|exact all_mt|refine all_up ?_ ?_))<;>first|exact ⟨rfl,_,rfl,.inr ⟨rfl,rfl⟩⟩|exact ⟨rfl,_,rfl,.inl rfl⟩|exact ⟨rfl,_,rfl,.inr ⟨rfl,by first|rfl|assumption|exact (bytesC_pure _)⟩⟩
                case' neg =>
                  have k16:(e == 16)=false:=by simpa using k16
                  by_cases k17:(e == 17)=true
                  case' pos =>
                    obtain ⟨q,hq,hqb⟩:=nat_of (nextV_bd l a1 2 (by decide))
                    have m1:=next_any l a1 2 (by decide) (by decide) hl
                    rw [hq] at m1
                    generalize nextAt l a1=a2 at *
                    have hq1:(1500:Int) + (q:Int)=((1500 + q:Nat):Int):=by omega
                    have hzr:zerosL (1500 + q) [.base (.int .u8 0)]=bytesC (List.replicate (1500 + q) 0):=zeros_bytes _
                    have hzl:(List.replicate (1500 + q) (0:Int)).length=1500 + q:=List.length_replicate
                    refine Wq (qW 7 9 rfl rfl rfl (qM rfl rfl (Od rfl rfl (C1 (fr:=[]) rfl rfl (e1) fok20 (.own rfl rfl (.cons rfl (.pure rfl) .nil)) rfl rfl rfl (Cn _ _) (by decide) rfl) (Nl (Wb (Wq (qW 13 15 rfl rfl rfl (qE rfl rfl rfl (qA rfl rfl (Nl (Wf rfl ‹_› (Wq (qW 28 30 rfl rfl rfl (qE rfl rfl rfl (qA rfl rfl (Nl (Wf rfl ‹_› (Wq (qW 43 45 rfl rfl rfl (qE rfl rfl rfl (qA rfl rfl (Nl (Wf rfl ‹_› (Wq (qW 58 60 rfl rfl rfl (qE rfl rfl rfl (qA rfl rfl (Nl (Wf rfl ‹_› (Wq (qW 74 76 rfl rfl rfl (qE rfl rfl rfl (qA rfl rfl (Nl (Wf rfl ‹_› (Wq (qW 90 92 rfl rfl rfl (qE rfl rfl rfl (qA rfl rfl (Nl (Wf rfl ‹_› (Wq (qW 103 105 rfl rfl rfl (qE rfl rfl rfl (qA rfl rfl (Nl (Wf rfl ‹_› (Wq (qW 122 124 rfl rfl rfl (qE rfl rfl rfl (qA rfl rfl (Nl (Wt rfl ‹_› (qW 128 134 rfl rfl rfl (qM rfl rfl (Od rfl rfl (C1 (fr:=[]) rfl rfl (m1) fok20 (.own rfl rfl (.cons rfl (.pure rfl) .nil)) rfl rfl rfl (Cn _ _) (by decide) rfl) (qZ rfl rfl rfl (by (first|exact IntWalk.i64_in _ (by omega)|assumption)) (Od rfl rfl (LO.makeSlice rfl rfl rfl rfl rfl ty24 ty5 (by decide) (by first|omega|decide|assumption|(simp;done)|(simp;omega)) (by first|omega|decide|assumption|(simp;done)|(simp;omega)) (by first|omega|decide|assumption|(simp;done)|(simp;omega))) (qF rfl rfl ty26 rfl rfl (qS rfl rfl rfl rfl rfl ty24 rfl rfl (Sl rfl) (Nl ?_)))))))))))))))))))))))))))))))))))))))))))))))))))))))))))))
                    rw [hzr]
                    intro yJ KJ hJ
                    refine Wv (q:=1) (j:=14) (r:=131) rfl rfl (by decide) rfl (bytes_tk hzl) (bytesC_pure _) (Sl rfl) ?_
                    rw [show AV.isl (bytesC (List.replicate (1500 + q) 0)) (1500 + q)=AV.isl (bytesC (List.replicate (1500 + q) 0)) (List.replicate (1500 + q) (0:Int)).length from by rw [hzl]]
                    refine W.renameJ [(0,0),(1,1),(2,2)] 3 (by decide) ?_ ?_ (hJ (((⟨[d0,d1,d2,d3,d4,d5],[s0,s1,s2,s3,s4,s5],vl,ty,List.replicate (1500 + q) 0⟩:Fr)),a2) (show FrY ((⟨[d0,d1,d2,d3,d4,d5],[s0,s1,s2,s3,s4,s5],vl,ty,List.replicate (1500 + q) 0⟩:Fr)) from .mk6 ⟨rfl,dB⟩ ⟨rfl,sB⟩ ⟨IsB.zeros _,by omega⟩))
                    · (repeat' (first|exact LookR.nil|refine LookR.cons ?_ ?_))<;>first|exact .inl ⟨rfl,rfl⟩|exact .inr ⟨rfl,fun _ h=>by cases h⟩|exact .inl ⟨rfl,by first|rfl|assumption|exact (bytesC_pure _)⟩
                    · (repeat' (first|exact all_mt|refine all_up ?_ ?_))<;>first|exact ⟨rfl,_,rfl,.inr ⟨rfl,rfl⟩⟩|exact ⟨rfl,_,rfl,.inl rfl⟩|exact ⟨rfl,_,rfl,.inr ⟨rfl,by first|rfl|assumption|exact (bytesC_pure _)⟩⟩
                  case' neg =>
                    have k17:(e == 17)=false:=by simpa using k17
                    by_cases k18:(e == 18)=true
                    case' pos =>
                      have m1:=next_any l a1 400 (by decide) (by decide) hl
                      generalize nextV l a1 400=q at *
                      generalize nextAt l a1=a2 at *
                      refine Wq (qW 7 9 rfl rfl rfl (qM rfl rfl (Od rfl rfl (C1 (fr:=[]) rfl rfl (e1) fok20 (.own rfl rfl (.cons rfl (.pure rfl) .nil)) rfl rfl rfl (Cn _ _) (by decide) rfl) (Nl (Wb (Wq (qW 13 15 rfl rfl rfl (qE rfl rfl rfl (qA rfl rfl (Nl (Wf rfl ‹_› (Wq (qW 28 30 rfl rfl rfl (qE rfl rfl rfl (qA rfl rfl (Nl (Wf rfl ‹_› (Wq (qW 43 45 rfl rfl rfl (qE rfl rfl rfl (qA rfl rfl (Nl (Wf rfl ‹_› (Wq (qW 58 60 rfl rfl rfl (qE rfl rfl rfl (qA rfl rfl (Nl (Wf rfl ‹_› (Wq (qW 74 76 rfl rfl rfl (qE rfl rfl rfl (qA rfl rfl (Nl (Wf rfl ‹_› (Wq (qW 90 92 rfl rfl rfl (qE rfl rfl rfl (qA rfl rfl (Nl (Wf rfl ‹_› (Wq (qW 103 105 rfl rfl rfl (qE rfl rfl rfl (qA rfl rfl (Nl (Wf rfl ‹_› (Wq (qW 122 124 rfl rfl rfl (qE rfl rfl rfl (qA rfl rfl (Nl (Wf rfl ‹_› (Wq (qW 138 140 rfl rfl rfl (qE rfl rfl rfl (qA rfl rfl (Nl (Wt rfl ‹_› (qW 144 149 rfl rfl rfl (qM rfl rfl (Od rfl rfl (C1 (fr:=[]) rfl rfl (m1) fok20 (.own rfl rfl (.cons rfl (.pure rfl) .nil)) rfl rfl rfl (Cn _ _) (by decide) rfl) (Od rfl rfl (C0 (fr:=[]) rfl rfl (mac_any q) fok76 (.cons rfl (.pure rfl) .nil) rfl) (qF rfl rfl ty26 rfl rfl (qS rfl rfl rfl rfl rfl ty23 rfl rfl (Sl rfl) (Nl ?_))))))))))))))))))))))))))))))))))))))))))))))))))))))))))))))))))
                      intro yJ KJ hJ
                      refine W.renameJ [(0,0),(1,1),(2,2)] 3 (by decide) ?_ ?_ (hJ (((⟨macF q,[s0,s1,s2,s3,s4,s5],vl,ty,data⟩:Fr)),a2) (show FrY ((⟨macF q,[s0,s1,s2,s3,s4,s5],vl,ty,data⟩:Fr)) from .mk6 ⟨rfl,macF_isB q⟩ ⟨rfl,sB⟩ ⟨bB,bl⟩))
                      · (repeat' (first|exact LookR.nil|refine LookR.cons ?_ ?_))<;>first|exact .inl ⟨rfl,rfl⟩|exact .inr ⟨rfl,fun _ h=>by cases h⟩|exact .inl ⟨rfl,by first|rfl|assumption|exact (bytesC_pure _)⟩
                      · (repeat' (first|exact all_mt|refine all_up ?_ ?_))<;>first|exact ⟨rfl,_,rfl,.inr ⟨rfl,rfl⟩⟩|exact ⟨rfl,_,rfl,.inl rfl⟩|exact ⟨rfl,_,rfl,.inr ⟨rfl,by first|rfl|assumption|exact (bytesC_pure _)⟩⟩
                    case' neg =>
                      have k18:(e == 18)=false:=by simpa using k18
                      refine Wq (qW 7 9 rfl rfl rfl (qM rfl rfl (Od rfl rfl (C1 (fr:=[]) rfl rfl (e1) fok20 (.own rfl rfl (.cons rfl (.pure rfl) .nil)) rfl rfl rfl (Cn _ _) (by decide) rfl) (Nl (Wb (Wq (qW 13 15 rfl rfl rfl (qE rfl rfl rfl (qA rfl rfl (Nl (Wf rfl ‹_› (Wq (qW 28 30 rfl rfl rfl (qE rfl rfl rfl (qA rfl rfl (Nl (Wf rfl ‹_› (Wq (qW 43 45 rfl rfl rfl (qE rfl rfl rfl (qA rfl rfl (Nl (Wf rfl ‹_› (Wq (qW 58 60 rfl rfl rfl (qE rfl rfl rfl (qA rfl rfl (Nl (Wf rfl ‹_› (Wq (qW 74 76 rfl rfl rfl (qE rfl rfl rfl (qA rfl rfl (Nl (Wf rfl ‹_› (Wq (qW 90 92 rfl rfl rfl (qE rfl rfl rfl (qA rfl rfl (Nl (Wf rfl ‹_› (Wq (qW 103 105 rfl rfl rfl (qE rfl rfl rfl (qA rfl rfl (Nl (Wf rfl ‹_› (Wq (qW 122 124 rfl rfl rfl (qE rfl rfl rfl (qA rfl rfl (Nl (Wf rfl ‹_› (Wq (qW 138 140 rfl rfl rfl (qE rfl rfl rfl (qA rfl rfl (Nl (Wf rfl ‹_› (Wk ?_))))))))))))))))))))))))))))))))))))))))))))))))))))))))))))
                      intro yJ KJ hJ
                      refine W.renameJ [(0,0),(1,1),(2,2)] 3 (by decide) ?_ ?_ (hJ (((⟨[d0,d1,d2,d3,d4,d5],[s0,s1,s2,s3,s4,s5],vl,ty,data⟩:Fr)),a1) (show FrY ((⟨[d0,d1,d2,d3,d4,d5],[s0,s1,s2,s3,s4,s5],vl,ty,data⟩:Fr)) from .mk6 ⟨rfl,dB⟩ ⟨rfl,sB⟩ ⟨bB,bl⟩))
                      · (repeat' (first|exact LookR.nil|refine LookR.cons ?_ ?_))<;>first|exact .inl ⟨rfl,rfl⟩|exact .inr ⟨rfl,fun _ h=>by cases h⟩|exact .inl ⟨rfl,by first|rfl|assumption|exact (bytesC_pure _)⟩
                      · (repeat' (first|exact all_mt|refine all_up ?_ ?_))<;>first|exact ⟨rfl,_,rfl,.inr ⟨rfl,rfl⟩⟩|exact ⟨rfl,_,rfl,.inl rfl⟩|exact ⟨rfl,_,rfl,.inr ⟨rfl,by first|rfl|assumption|exact (bytesC_pure _)⟩⟩
  have g6:=hIJ.ok.d6
  have t6:=hIJ.ok.s6
  obtain ⟨gd,gs,gv,gt,gx⟩:=g
  dsimp only at g6 t6
  obtain ⟨w0,w1,w2,w3,w4,w5,rfl⟩:=six_of g6
  obtain ⟨y0,y1,y2,y3,y4,y5,rfl⟩:=six_of t6
  refine Wq (qW 153 155 rfl rfl rfl (qG rfl rfl rfl ty26 rfl (Tl rfl) (qS rfl rfl rfl rfl rfl ty26 rfl rfl (Sl rfl) (Nl ?_))))
  refine W.ret ⟨.inl rfl,_,up mt 0 (some (deckC l b)),(RVs.cons (RV.cellA rfl rfl ty26 rfl (Tk.lit rfl)) RVs.nil),(by (repeat' (first|exact all_mt|refine all_up ?_ ?_))<;>rfl),?_⟩
  exact ⟨_,b,hIJ,rfl,rfl⟩
end Go.Proofs.YtcidmiacfjdepaaGreatDoor
