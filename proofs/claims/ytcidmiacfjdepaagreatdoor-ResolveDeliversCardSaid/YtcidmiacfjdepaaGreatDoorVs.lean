/-
  Where a frame goes, by the document. The setting: the tables of a database, one of its rules, a frame.
-/
import Derived.Test.YtcidmiacfjdepaaGreatDoorVe
import Derived.Test.YtcidmiacfjdepaaGreatDoorVb
import Derived.Test.YtcidmiacfjdepaaGreatDoorRx
import Derived.Test.YtcidmiacfjdepaaGreatDoorCd
import Derived.Test.YtcidmiacfjdepaaGreatDoorMab
namespace Go.Proofs.YtcidmiacfjdepaaGreatDoor
open Go.RowKit
theorem whereX_any (l:List Rl) (m:List Int) (hm:m.length=6) (hl:l.length≤100000) (hr:∀ r,r∈l→r.macs.length≤1000∧∀ x,x∈r.macs→x.length=6):AFn Tryz.prog 35 0 [.isl (rulesC l) l.length,.agg (bytesC m)] mt (whereV l m) mt:=by
  refine AFn.eq Tryz.func35 rfl rfl (Nat.le_of_ble_eq_true rfl) ?_
  obtain ⟨m0,m1,m2,m3,m4,m5,rfl⟩:=six_of hm
  refine Wq (qW 0 3 rfl rfl rfl (qC rfl rfl rfl (qA rfl rfl (qA rfl rfl (Nl (Wq (Wq (qW 7 10 rfl rfl rfl (qM rfl rfl (qH rfl rfl rfl ty30 (qM rfl rfl (Nl (Wb (W.loop_keep (α:=Nat) (fun x=>l.length - x) 1 (fun x=>[(3,.own 0 0),(12,.base (.int .i64 (x:Int)))]) (fun x=>up mt 0 (some (bytesC [m0,m1,m2,m3,m4,m5]))) (fun x=>x≤l.length∧whereF l [m0,m1,m2,m3,m4,m5]=whereF (l.drop x) [m0,m1,m2,m3,m4,m5]) 0 [(0,0)] (.cons (t:=10) rfl (by first|exact .inl rfl|exact .inr ⟨rfl,fun _ h=>by cases h⟩|(exact .inl (by assumption)) ) (.cons (t:=11) rfl (by first|exact .inl rfl|exact .inr ⟨rfl,fun _ h=>by cases h⟩|(exact .inl (by assumption)) ) .nil)) (show 0≤l.length∧whereF l [m0,m1,m2,m3,m4,m5]=whereF (l.drop 0) [m0,m1,m2,m3,m4,m5] from ⟨Nat.zero_le _,rfl⟩) (by decide) ?_ ?_ ?_))))))))))))))
  · (repeat' (first|exact LookR.nil|refine LookR.cons ?_ ?_))<;>first|exact .inl ⟨rfl,rfl⟩|exact .inr ⟨rfl,fun _ h=>by cases h⟩|exact .inl ⟨rfl,by first|rfl|assumption ⟩
  · (repeat' (first|exact all_mt|refine all_up ?_ ?_))<;>first|exact ⟨rfl,_,rfl,.inr ⟨rfl,rfl⟩⟩|exact ⟨rfl,_,rfl,.inl rfl⟩|exact ⟨rfl,_,rfl,.inr ⟨rfl,by first|rfl|assumption ⟩⟩
  rintro i hIA ihA
  try (dsimp only at hIA)
  try dsimp only [baseT,List.cons_append,List.nil_append]
  obtain ⟨hi,hw⟩:=hIA
  by_cases hc:i < l.length
  · have g1:decide ((i:Int) < (l.length:Int))=true:=decide_eq_true (by omega)
    have hri:=hr _ (List.getElem_mem hc)
    have hat:=whereF_at (m:=[m0,m1,m2,m3,m4,m5]) hc
    have hdr:=whereF_drop (m:=[m0,m1,m2,m3,m4,m5]) hc
    refine Wq (qW 14 15 rfl rfl rfl (qK rfl rfl rfl (Nl (Wq (Wt rfl ‹_› (Wk (Wq (Wb (Wq (qW 19 23 rfl rfl rfl (qJ rfl rfl rfl rfl rfl ty30 ty35 (by first|omega|decide|assumption|(simp;done)|(simp;omega)) (Od rfl rfl (Lg rfl rfl ty35 rfl (rules_tk hc)) (qB rfl ty35 (qS rfl rfl rfl rfl rfl ty35 rfl rfl (Sl rfl) (Nl ?_)))))))))))))))
    generalize l[i]=r at *
    obtain ⟨port,asn,sw,ms,v4,v6,rate,burst⟩:=r
    dsimp only at hri hat hdr
    obtain ⟨hmn,hm6⟩:=hri
    refine Wq (qW 27 31 rfl rfl rfl (qF rfl rfl ty35 rfl rfl (qL rfl rfl rfl rfl ty32 rfl (qH rfl rfl rfl ty32 (qM rfl rfl (Nl (Wb (W.loop_keep (α:=Nat) (fun x=>ms.length - x) 2 (fun x=>[(3,.own 0 0),(7,.own 1 0),(19,.base (.int .i64 (x:Int)))]) (fun x=>up (up mt 0 (some (bytesC [m0,m1,m2,m3,m4,m5]))) 1 (some ([.base (.int .i64 port),.base (.int .i64 asn),.base (.int .i64 sw),.isl (macsC ms) ms.length,.isl (adsC v4) v4.length,.isl (adsC v6) v6.length,.base (.int .i64 rate),.base (.int .i64 burst)]))) (fun x=>x≤ms.length∧∀ q,q < x→ms[q]?≠some [m0,m1,m2,m3,m4,m5]) 0 [(0,0),(1,21)] (.cons (t:=10) rfl (by first|exact .inl rfl|exact .inr ⟨rfl,fun _ h=>by cases h⟩|(exact .inl (by assumption)) ) (.cons (t:=11) rfl (by first|exact .inl rfl|exact .inr ⟨rfl,fun _ h=>by cases h⟩|(exact .inl (by assumption)) ) (.cons (t:=12) rfl (by first|exact .inl rfl|exact .inr ⟨rfl,fun _ h=>by cases h⟩|(exact .inl (by assumption)) ) (.cons (t:=17) rfl (by first|exact .inl rfl|exact .inr ⟨rfl,fun _ h=>by cases h⟩|(exact .inl (by assumption)) ) (.cons (t:=18) rfl (by first|exact .inl rfl|exact .inr ⟨rfl,fun _ h=>by cases h⟩|(exact .inl (by assumption)) ) .nil))))) (show 0≤ms.length∧∀ q,q < 0→ms[q]?≠some [m0,m1,m2,m3,m4,m5] from ⟨Nat.zero_le _,fun q h=>absurd h (Nat.not_lt_zero _)⟩) (by decide) ?_ ?_ ?_))))))))
    · (repeat' (first|exact LookR.nil|refine LookR.cons ?_ ?_))<;>first|exact .inl ⟨rfl,rfl⟩|exact .inr ⟨rfl,fun _ h=>by cases h⟩|exact .inl ⟨rfl,by first|rfl|assumption ⟩
    · (repeat' (first|exact all_mt|refine all_up ?_ ?_))<;>first|exact ⟨rfl,_,rfl,.inr ⟨rfl,rfl⟩⟩|exact ⟨rfl,_,rfl,.inl rfl⟩|exact ⟨rfl,_,rfl,.inr ⟨rfl,by first|rfl|assumption ⟩⟩
    rintro j hIB ihB
    try (dsimp only at hIB)
    try dsimp only [baseT,List.cons_append,List.nil_append]
    obtain ⟨hj,hno⟩:=hIB
    by_cases hd:j < ms.length
    · have g2:decide ((j:Int) < (ms.length:Int))=true:=decide_eq_true (by omega)
      have hx6:=hm6 _ (List.getElem_mem hd)
      have hxt:=macs_tk hm6 hd
      have hxm:=List.getElem_mem hd
      have hnx:=no_nextM hno hd
      generalize ms[j]=x at *
      obtain ⟨x0,x1,x2,x3,x4,x5,rfl⟩:=six_of hx6
      refine Wq (qW 35 36 rfl rfl rfl (qK rfl rfl rfl (Nl (Wq (Wt rfl ‹_› (Wk (Wq (Wb (Wq (qW 40 44 rfl rfl rfl (qJ rfl rfl rfl rfl rfl ty32 ty23 (by first|omega|decide|assumption|(simp;done)|(simp;omega)) (Od rfl rfl (Lg rfl rfl ty23 rfl hxt) (qB rfl ty23 (qS rfl rfl rfl rfl rfl ty23 rfl rfl (Sl rfl) (Nl ?_)))))))))))))))
      by_cases e:([x0,x1,x2,x3,x4,x5]:List Int)=[m0,m1,m2,m3,m4,m5]
      · have k1:decide (([x0,x1,x2,x3,x4,x5]:List Int)=[m0,m1,m2,m3,m4,m5])=true:=decide_eq_true e
        refine Wq (qW 48 51 rfl rfl rfl (qG rfl rfl rfl ty23 rfl (Tl rfl) (qG rfl rfl rfl ty23 rfl (Tl rfl) (Od rfl rfl (LO.eql_mac [x0,x1,x2,x3,x4,x5] [m0,m1,m2,m3,m4,m5] rfl rfl rfl rfl rfl) (Nl (Wt rfl ‹_› (Wq (qW 55 59 rfl rfl rfl (qF rfl rfl ty35 rfl rfl (qL rfl rfl rfl rfl ty3 rfl (qA rfl rfl (qA rfl rfl (Nl (Wz ⟨.inl rfl,_,mt,Rc (Rt rfl) (Rc (Rt rfl) (Rn)),all_mt,?_⟩))))))))))))))
        exact ⟨by unfold whereV;rw [hw,hat (e ▸ hxm)];rfl,rfl⟩
      · have k1:decide (([x0,x1,x2,x3,x4,x5]:List Int)=[m0,m1,m2,m3,m4,m5])=false:=decide_eq_false e
        refine Wq (qW 48 51 rfl rfl rfl (qG rfl rfl rfl ty23 rfl (Tl rfl) (qG rfl rfl rfl ty23 rfl (Tl rfl) (Od rfl rfl (LO.eql_mac [x0,x1,x2,x3,x4,x5] [m0,m1,m2,m3,m4,m5] rfl rfl rfl rfl rfl) (Nl (Wf rfl ‹_› (Wk (qW 63 65 rfl rfl rfl (qZ rfl rfl rfl (by (first|exact IntWalk.i64_in _ (by omega)|assumption)) (qM rfl rfl (Nl (WL.renameL [(0,0),(1,1)] 2 (by decide) ?_ ?_ (ihB (j + 1) (show ms.length - (j + 1) < ms.length - j from by omega) (show (j + 1)≤ms.length∧∀ q,q < (j + 1)→ms[q]?≠some [m0,m1,m2,m3,m4,m5] from ⟨by omega,hnx (fun h=>e h.symm)⟩))))))))))))))
        · (repeat' (first|exact LookR.nil|refine LookR.cons ?_ ?_))<;>first|exact .inl ⟨rfl,rfl⟩|exact .inr ⟨rfl,fun _ h=>by cases h⟩|exact .inl ⟨rfl,by first|rfl|assumption ⟩
        · (repeat' (first|exact all_mt|refine all_up ?_ ?_))<;>first|exact ⟨rfl,_,rfl,.inr ⟨rfl,rfl⟩⟩|exact ⟨rfl,_,rfl,.inl rfl⟩|exact ⟨rfl,_,rfl,.inr ⟨rfl,by first|rfl|assumption ⟩⟩
    · have g2:decide ((j:Int) < (ms.length:Int))=false:=decide_eq_false (by omega)
      have hn:¬ [m0,m1,m2,m3,m4,m5]∈ms:=fun h=>by
        obtain ⟨q,hq,e⟩:=List.getElem_of_mem h
        exact hno q (by omega) (by rw [List.getElem?_eq_getElem hq,e])
      refine Wq (qW 35 36 rfl rfl rfl (qK rfl rfl rfl (Nl (Wq (Wf rfl ‹_› (Wx (qW 69 71 rfl rfl rfl (qZ rfl rfl rfl (by (first|exact IntWalk.i64_in _ (by omega)|assumption)) (qM rfl rfl (Nl (WL.renameL [(0,0)] 1 (by decide) ?_ ?_ (ihA (i + 1) (show l.length - (i + 1) < l.length - i from by omega) (show (i + 1)≤l.length∧whereF l [m0,m1,m2,m3,m4,m5]=whereF (l.drop (i + 1)) [m0,m1,m2,m3,m4,m5] from ⟨by omega,hw.trans (hdr hn)⟩)))))))))))))
      · (repeat' (first|exact LookR.nil|refine LookR.cons ?_ ?_))<;>first|exact .inl ⟨rfl,rfl⟩|exact .inr ⟨rfl,fun _ h=>by cases h⟩|exact .inl ⟨rfl,by first|rfl|assumption ⟩
      · (repeat' (first|exact all_mt|refine all_up ?_ ?_))<;>first|exact ⟨rfl,_,rfl,.inr ⟨rfl,rfl⟩⟩|exact ⟨rfl,_,rfl,.inl rfl⟩|exact ⟨rfl,_,rfl,.inr ⟨rfl,by first|rfl|assumption ⟩⟩
  · have g1:decide ((i:Int) < (l.length:Int))=false:=decide_eq_false (by omega)
    refine Wq (qW 14 15 rfl rfl rfl (qK rfl rfl rfl (Nl (Wq (Wf rfl ‹_› (Wx ?_))))))
    obtain rfl:i=l.length:=by omega
    refine Wq (qW 75 77 rfl rfl rfl (qA rfl rfl (qA rfl rfl (Nl (Wz ⟨.inl rfl,_,mt,Rc (Rt rfl) (Rc (Rt rfl) (Rn)),all_mt,?_⟩)))))
    exact ⟨by unfold whereV;rw [hw,List.drop_length];rfl,rfl⟩
theorem boundX_any (l:List Bd) (a:Ad) (hl:l.length≤100000) (hm:MacOk l):AFn Tryz.prog 34 0 [.isl (bdsC l) l.length,.agg (adC a)] mt (boundV l a) mt:=by
  refine AFn.eq Tryz.func34 rfl rfl (Nat.le_of_ble_eq_true rfl) (Wq (qW 0 3 rfl rfl rfl (qC rfl rfl rfl (qB rfl ty85 (qA rfl rfl (Nl (Wq (Wq (qW 7 10 rfl rfl rfl (qM rfl rfl (qH rfl rfl rfl ty31 (qM rfl rfl (Nl (Wb (W.rename [(0,0),(1,1)] 2 (T':=up (up (up (up (up mt 3 (some (.own 0 0))) 4 (some (.own 1 0))) 8 (some (.isl (bdsC l) l.length))) 9 (some (.base (.int .i64 (l.length:Int))))) 10 (some (.base (.int .i64 (0:Int))))) (H':=up (up mt 0 (some (adC a))) 1 (some (bdC zBd))) (by decide) ?_ ?_ ?_)))))))))))))))
  · (repeat' (first|exact all_mt|refine all_up ?_ ?_))<;>first|exact .inl ⟨rfl,rfl⟩|exact .inr ⟨rfl,fun _ h=>by cases h⟩|exact .inl ⟨rfl,by first|rfl|assumption ⟩
  · (repeat' (first|exact all_mt|refine all_up ?_ ?_))<;>first|exact ⟨rfl,_,rfl,.inr ⟨rfl,rfl⟩⟩|exact ⟨rfl,_,rfl,.inl rfl⟩|exact ⟨rfl,_,rfl,.inr ⟨rfl,by first|rfl|assumption ⟩⟩
  refine W.loop_ind (α:=Nat) (fun x=>l.length - x) 2 (fun x=>up (up (up (up (up mt 3 (some (.own 0 0))) 4 (some (.own 1 0))) 8 (some (.isl (bdsC l) l.length))) 9 (some (.base (.int .i64 (l.length:Int))))) 10 (some (.base (.int .i64 (x:Int))))) (fun x=>up (up mt 0 (some (adC a))) 1 (some (bdC zBd))) (fun x=>x≤l.length∧boundF l a=boundF (l.drop x) a) 0 (show 0≤l.length∧boundF l a=boundF (l.drop 0) a from ⟨Nat.zero_le _,rfl⟩) ?_
  rintro i hIA ihA
  try (dsimp only at hIA)
  try dsimp only
  obtain ⟨hi,hw⟩:=hIA
  by_cases hc:i < l.length
  · have g1:decide ((i:Int) < (l.length:Int))=true:=decide_eq_true (by omega)
    have h6:=hm _ (List.getElem_mem hc)
    have hbt:=bds_tk hm hc
    have hdr:boundF (l.drop i) a=if eqA l[i].ad a then some l[i] else boundF (l.drop (i + 1)) a:=by
      rw [List.drop_eq_getElem_cons hc];rfl
    generalize l[i]=b at *
    obtain ⟨ad,mc,port⟩:=b
    dsimp only at h6 hdr
    match mc,h6,hbt,hdr with
    | [a0,a1,a2,a3,a4,a5],_,hbt,hdr =>
      refine Wq (qW 14 15 rfl rfl rfl (qK rfl rfl rfl (Nl (Wq (Wt rfl ‹_› (Wk (Wq (Wb (Wq (qW 19 23 rfl rfl rfl (qJ rfl rfl rfl rfl rfl ty31 ty85 (by first|omega|decide|assumption|(simp;done)|(simp;omega)) (Od rfl rfl (Lg rfl rfl ty85 rfl hbt) (qB rfl ty85 (qS rfl rfl rfl rfl rfl ty85 rfl rfl (Sl rfl) (Nl ?_)))))))))))))))
      cases he:eqA ad a
      ·
        rw [he] at hdr
        refine Wq (qW 27 31 rfl rfl rfl (qF rfl rfl ty85 rfl rfl (qG rfl rfl rfl ty42 rfl (Tl rfl) (qG rfl rfl rfl ty42 rfl (Tl rfl) (Od rfl rfl (LO.eql_ad ad a rfl rfl rfl) (Nl (Wf rfl ‹_› (Wk (qW 42 44 rfl rfl rfl (qZ rfl rfl rfl (by (first|exact IntWalk.i64_in _ (by omega)|assumption)) (qM rfl rfl (Nl (WL.rename [(0,0),(1,1)] 2 (by decide) ?_ ?_ (ihA (i + 1) (show l.length - (i + 1) < l.length - i from by omega) (show (i + 1)≤l.length∧boundF l a=boundF (l.drop (i + 1)) a from ⟨by omega,hw.trans hdr⟩)))))))))))))))
        · (repeat' (first|exact all_mt|refine all_up ?_ ?_))<;>first|exact .inl ⟨rfl,rfl⟩|exact .inr ⟨rfl,fun _ h=>by cases h⟩|exact .inl ⟨rfl,by first|rfl|assumption ⟩
        · (repeat' (first|exact all_mt|refine all_up ?_ ?_))<;>first|exact ⟨rfl,_,rfl,.inr ⟨rfl,rfl⟩⟩|exact ⟨rfl,_,rfl,.inl rfl⟩|exact ⟨rfl,_,rfl,.inr ⟨rfl,by first|rfl|assumption ⟩⟩
      ·
        rw [he] at hdr
        refine Wq (qW 27 31 rfl rfl rfl (qF rfl rfl ty85 rfl rfl (qG rfl rfl rfl ty42 rfl (Tl rfl) (qG rfl rfl rfl ty42 rfl (Tl rfl) (Od rfl rfl (LO.eql_ad ad a rfl rfl rfl) (Nl (Wt rfl ‹_› (Wq (qW 35 38 rfl rfl rfl (qG rfl rfl rfl ty85 rfl (Tl rfl) (qS rfl rfl rfl rfl rfl ty85 rfl rfl (Sl rfl) (qA rfl rfl (Nl ?_)))))))))))))
        refine W.ret ⟨.inl rfl,_,mt,(RVs.cons (RV.cellA rfl rfl ty85 rfl (Tk.lit rfl)) (RVs.cons (RV.tmp rfl) RVs.nil)),(by (repeat' (first|exact all_mt|refine all_up ?_ ?_))<;>rfl),?_⟩
        exact ⟨by unfold boundV;rw [hw,hdr];rfl,rfl⟩
  · have g1:decide ((i:Int) < (l.length:Int))=false:=decide_eq_false (by omega)
    refine Wq (qW 14 15 rfl rfl rfl (qK rfl rfl rfl (Nl (Wq (Wf rfl ‹_› (Wx ?_))))))
    obtain rfl:i=l.length:=by omega
    refine Wq (qW 48 51 rfl rfl rfl (Od rfl rfl (Bs rfl ty85 .nil) (qS rfl rfl rfl rfl rfl ty85 rfl rfl (Sl rfl) (qA rfl rfl (Nl ?_)))))
    refine W.ret ⟨.inl rfl,_,mt,(RVs.cons (RV.cellA rfl rfl ty85 rfl (Tk.lit rfl)) (RVs.cons (RV.tmp rfl) RVs.nil)),(by (repeat' (first|exact all_mt|refine all_up ?_ ?_))<;>rfl),?_⟩
    exact ⟨by unfold boundV;rw [hw,List.drop_length];rfl,rfl⟩
theorem grpX_any (f:Fr) (hf:FrX f):AFn Tryz.prog 29 0 [.agg (bytesC f.dst)] mt (.base (.bool (grpE f.dst))) mt:=by
  have h6:=hf.ok.d6
  have hB:=hf.dB
  obtain ⟨p0,p1,p2,p3,p4,p5,e⟩:=six_of h6
  rw [e] at hB ⊢
  have:=grpM_any [p0,p1,p2,p3,p4,p5] rfl hB
  rwa [grp_eq (hB p0 (by simp))] at this
set_option maxHeartbeats 2000000 in
theorem asksX_any (f:Fr) (hx:FrX f):AFn Tryz.prog 9 0 [.agg (frC f)] mt (asksV (asksF f)) mt:=by
  refine AFn.eq Tryz.func9 rfl rfl (Nat.le_of_ble_eq_true rfl) ?_
  have hgr:=grpX_any f hx
  obtain ⟨h1,h2,hB,hl⟩:=hx.ok
  have harp:=decA_any f.data hB
  have hpd:=rdec_any f.data hB (by omega)
  obtain ⟨q1,q2,q3⟩:=dcP_ok f.data hB
  have hnd:=decX_any (dcP f.data) q1 q2.1 q2.2 q3.1 q3.2
  have hln:=decR_len6 (dcP f.data)
  unfold asksF
  obtain ⟨dst,src,vl,ty,data⟩:=f
  clear hx
  dsimp only at *
  obtain ⟨d0,d1,d2,d3,d4,d5,rfl⟩:=six_of h1
  obtain ⟨s0,s1,s2,s3,s4,s5,rfl⟩:=six_of h2
  obtain ⟨n,hn⟩:∃ n,data.length=n:=⟨_,rfl⟩
  have hfm:arpE data=0→(arpOf data).fm.length=6∧(arpOf data).tm.length=6:=fun h=>by
    have:28≤data.length:=by
      rcases Nat.lt_or_ge data.length 28 with h3|h3
      · unfold arpE at h;rw [if_pos h3] at h;cases h
      · exact h3
    unfold arpOf
    constructor
    · show ((data.drop 8).take 6).length=6
      rw [List.length_take,List.length_drop];omega
    · show ((data.drop 18).take 6).length=6
      rw [List.length_take,List.length_drop];omega
  unfold arpR at harp
  generalize arpOf data=A at *
  generalize arpE data=ae at *
  generalize dcP data=P at *
  generalize dcE data=pe at *
  unfold decV at hnd
  generalize decR P=N at *
  obtain ⟨N,ne⟩:=N
  dsimp only at *
  refine Wq (qW 0 3 rfl rfl rfl (qC rfl rfl rfl (qB rfl ty42 (qA rfl rfl (Nl (Wq (Wb ?_)))))))
  by_cases hb1:(ty == 2054)=true∧decide (([d0,d1,d2,d3,d4,d5]:List Int)=bcM)=true
  case' pos =>
    obtain ⟨k1,k2⟩:=hb1
    have ek:(ty == 2054 && decide (([d0,d1,d2,d3,d4,d5]:List Int)=bcM))=true:=by rw [k1,k2];rfl
    rw [if_pos ek]
    refine Wq (Wd 7 17 (by decide) rfl mixed rfl (qF rfl rfl ty26 rfl rfl (qL rfl rfl rfl rfl ty3 rfl (qE rfl rfl rfl (qM rfl rfl (Gd rfl rfl rfl ‹_› rfl (Fa rfl rfl ty26 rfl (by decide)) (Gd rfl rfl rfl ‹_› rfl (La rfl rfl rfl ty23 rfl (Tl rfl)) (Gd rfl rfl rfl ‹_› rfl (C0 (fr:=[]) rfl rfl (bcX_any) fok19 .nil rfl) (Gd rfl rfl rfl ‹_› rfl (LO.eql_mac [d0,d1,d2,d3,d4,d5] bcM rfl rfl rfl rfl rfl) (qT rfl rfl ‹_› rfl (qA rfl rfl (Nl ⟨by kernel_rfl,(Wt rfl ‹_› ?_)⟩))))))))))))
    by_cases he:ae=0
    case' pos =>
      subst he
      obtain ⟨l1,l2⟩:=hfm rfl
      rw [if_pos rfl] at harp ⊢
      obtain ⟨op,fm,fr,tm,tt⟩:=A
      dsimp only at l1 l2
      obtain ⟨m0,m1,m2,m3,m4,m5,rfl⟩:=six_of l1
      obtain ⟨n0,n1,n2,n3,n4,n5,rfl⟩:=six_of l2
      refine Wq (qW 21 30 rfl rfl rfl (qF rfl rfl ty26 rfl rfl (qL rfl rfl rfl rfl ty24 rfl (Od rfl rfl (C0 (fr:=[]) rfl rfl (harp) fok28 (.cons rfl (.pure rfl) .nil) rfl) (qM rfl rfl (qX rfl rfl rfl (qX rfl rfl rfl (qB rfl ty64 (qS rfl rfl rfl rfl rfl ty64 rfl rfl (Sl rfl) (qA rfl rfl (Nl (Wq (qW 34 40 rfl rfl rfl (qF rfl rfl ty64 rfl rfl (qG rfl rfl rfl ty42 rfl (Tl rfl) (qM rfl rfl (qE rfl rfl rfl (qS rfl rfl rfl rfl rfl ty42 rfl rfl (Sl rfl) (qA rfl rfl (Nl ?_))))))))))))))))))))
      refine W.ret ⟨.inl rfl,_,mt,(RVs.cons (RV.cellA rfl rfl ty42 rfl (Tk.lit rfl)) (RVs.cons (RV.tmp rfl) RVs.nil)),(by (repeat' (first|exact all_mt|refine all_up ?_ ?_))<;>rfl),?_⟩
      exact ⟨rfl,rfl⟩
    case' neg =>
      have k3:(ae == 0)=false:=by simpa using he
      rw [if_neg he] at harp ⊢
      refine Wq (qW 21 30 rfl rfl rfl (qF rfl rfl ty26 rfl rfl (qL rfl rfl rfl rfl ty24 rfl (Od rfl rfl (C0 (fr:=[]) rfl rfl (harp) fok28 (.cons rfl (.pure rfl) .nil) rfl) (qM rfl rfl (qX rfl rfl rfl (qX rfl rfl rfl (qB rfl ty64 (qS rfl rfl rfl rfl rfl ty64 rfl rfl (Sl rfl) (qA rfl rfl (Nl (Wq (qW 34 40 rfl rfl rfl (qF rfl rfl ty64 rfl rfl (qG rfl rfl rfl ty42 rfl (Tl rfl) (qM rfl rfl (qE rfl rfl rfl (qS rfl rfl rfl rfl rfl ty42 rfl rfl (Sl rfl) (qA rfl rfl (Nl ?_))))))))))))))))))))
      refine W.ret ⟨.inl rfl,_,mt,(RVs.cons (RV.cellA rfl rfl ty42 rfl (Tk.lit rfl)) (RVs.cons (RV.tmp rfl) RVs.nil)),(by (repeat' (first|exact all_mt|refine all_up ?_ ?_))<;>rfl),?_⟩
      exact ⟨by rw [k3];rfl,rfl⟩
  case' neg =>
    have ek:(ty == 2054 && decide (([d0,d1,d2,d3,d4,d5]:List Int)=bcM))=false:=by
      rw [Bool.and_eq_false_iff]
      rcases Decidable.not_and_iff_or_not.1 hb1 with h|h
      · exact .inl (by simpa using h)
      · exact .inr (by simpa using h)
    rw [if_neg (by rw [ek];decide)]
    cases k1:(ty == 2054)
    case' true =>
      have k2:decide (([d0,d1,d2,d3,d4,d5]:List Int)=bcM)=false:=by rw [k1] at ek;exact ek
      refine Wq (Wd 7 17 (by decide) rfl mixed rfl (qF rfl rfl ty26 rfl rfl (qL rfl rfl rfl rfl ty3 rfl (qE rfl rfl rfl (qM rfl rfl (Gd rfl rfl rfl ‹_› rfl (Fa rfl rfl ty26 rfl (by decide)) (Gd rfl rfl rfl ‹_› rfl (La rfl rfl rfl ty23 rfl (Tl rfl)) (Gd rfl rfl rfl ‹_› rfl (C0 (fr:=[]) rfl rfl (bcX_any) fok19 .nil rfl) (Gd rfl rfl rfl ‹_› rfl (LO.eql_mac [d0,d1,d2,d3,d4,d5] bcM rfl rfl rfl rfl rfl) (qT rfl rfl ‹_› rfl (qA rfl rfl (Nl ⟨by kernel_rfl,(Wf rfl ‹_› ?_)⟩))))))))))))
    case' false =>
      refine Wq (Wd 7 17 (by decide) rfl mixed rfl (qF rfl rfl ty26 rfl rfl (qL rfl rfl rfl rfl ty3 rfl (qE rfl rfl rfl (qM rfl rfl (Sd rfl rfl rfl ‹_› rfl (Sd rfl rfl rfl ‹_› rfl (Sd rfl rfl rfl ‹_› rfl (Sd rfl rfl rfl ‹_› rfl (qP rfl rfl ‹_› rfl (qA rfl rfl (Nl ⟨by kernel_rfl,(Wf rfl rfl ?_)⟩))))))))))))
    all_goals
      clear ek hb1
      obtain ⟨g,hg⟩:∃ g,grpE [d0,d1,d2,d3,d4,d5]=g:=⟨_,rfl⟩
      rw [hg] at hgr ⊢
      cases k3:(ty == 34525)
      case' false =>
        rw [if_neg (by simp)]
        repeat (refine W.seq ?_)
        refine qW 44 53 rfl rfl rfl (qF rfl rfl ty26 rfl rfl (qL rfl rfl rfl rfl ty3 rfl (qE rfl rfl rfl (qM rfl rfl (Sd rfl rfl rfl ‹_› rfl (Sd rfl rfl rfl ‹_› rfl (Sd rfl rfl rfl ‹_› rfl (qP rfl rfl ‹_› rfl (qA rfl rfl (Nl (Wf rfl rfl (Wk ?_))))))))))))
        repeat (refine W.seq ?_)
        refine qW 121 124 rfl rfl rfl (Od rfl rfl (Bs rfl ty42 .nil) (qS rfl rfl rfl rfl rfl ty42 rfl rfl (Sl rfl) (qA rfl rfl (Nl ?_))))
        refine W.ret ⟨.inl rfl,_,mt,(RVs.cons (RV.cellA rfl rfl ty42 rfl (Tk.lit rfl)) (RVs.cons (RV.tmp rfl) RVs.nil)),(by (repeat' (first|exact all_mt|refine all_up ?_ ?_))<;>rfl),?_⟩
        exact ⟨rfl,rfl⟩
      case' true =>
        cases g
        case' false =>
          rw [if_neg (by decide)]
          repeat (refine W.seq ?_)
          refine qW 44 53 rfl rfl rfl (qF rfl rfl ty26 rfl rfl (qL rfl rfl rfl rfl ty3 rfl (qE rfl rfl rfl (qM rfl rfl (Gd rfl rfl rfl ‹_› rfl (Fa rfl rfl ty26 rfl (by decide)) (Gd rfl rfl rfl ‹_› rfl (La rfl rfl rfl ty23 rfl (Tl rfl)) (Gd rfl rfl rfl ‹_› rfl (C0 (fr:=[]) rfl rfl (hgr) fok29 (.cons rfl (.pure rfl) .nil) rfl) (qT rfl rfl ‹_› rfl (qA rfl rfl (Nl (Wf rfl rfl (Wk ?_))))))))))))
          repeat (refine W.seq ?_)
          refine qW 121 124 rfl rfl rfl (Od rfl rfl (Bs rfl ty42 .nil) (qS rfl rfl rfl rfl rfl ty42 rfl rfl (Sl rfl) (qA rfl rfl (Nl ?_))))
          refine W.ret ⟨.inl rfl,_,mt,(RVs.cons (RV.cellA rfl rfl ty42 rfl (Tk.lit rfl)) (RVs.cons (RV.tmp rfl) RVs.nil)),(by (repeat' (first|exact all_mt|refine all_up ?_ ?_))<;>rfl),?_⟩
          exact ⟨rfl,rfl⟩
        case' true =>
          rw [if_pos (by decide)]
          repeat (refine W.seq ?_)
          refine qW 44 53 rfl rfl rfl (qF rfl rfl ty26 rfl rfl (qL rfl rfl rfl rfl ty3 rfl (qE rfl rfl rfl (qM rfl rfl (Gd rfl rfl rfl ‹_› rfl (Fa rfl rfl ty26 rfl (by decide)) (Gd rfl rfl rfl ‹_› rfl (La rfl rfl rfl ty23 rfl (Tl rfl)) (Gd rfl rfl rfl ‹_› rfl (C0 (fr:=[]) rfl rfl (hgr) fok29 (.cons rfl (.pure rfl) .nil) rfl) (qT rfl rfl ‹_› rfl (qA rfl rfl (Nl (Wt rfl rfl ?_)))))))))))
          by_cases he:pe=0
          case' neg =>
            have k4:(pe != 0)=true:=by simpa using he
            rw [if_neg he,rdV_bad he] at *
            repeat (refine W.seq ?_)
            refine qW 57 66 rfl rfl rfl (qF rfl rfl ty26 rfl rfl (qL rfl rfl rfl rfl ty24 rfl (Od rfl rfl (C0 (fr:=[]) rfl rfl (hpd) fok30 (.cons rfl (.pure rfl) .nil) rfl) (qM rfl rfl (qX rfl rfl rfl (qX rfl rfl rfl (qB rfl ty74 (qS rfl rfl rfl rfl rfl ty74 rfl rfl (Sl rfl) (qA rfl rfl (Nl ?_))))))))))
            repeat (refine W.seq ?_)
            refine qW 70 72 rfl rfl rfl (qM rfl rfl (qN rfl rfl rfl (Nl (Wt rfl ‹_› ?_))))
            repeat (refine W.seq ?_)
            refine qW 76 79 rfl rfl rfl (Od rfl rfl (Bs rfl ty42 .nil) (qS rfl rfl rfl rfl rfl ty42 rfl rfl (Sl rfl) (qA rfl rfl (Nl ?_))))
            refine W.ret ⟨.inl rfl,_,mt,(RVs.cons (RV.cellA rfl rfl ty42 rfl (Tk.lit rfl)) (RVs.cons (RV.tmp rfl) RVs.nil)),(by (repeat' (first|exact all_mt|refine all_up ?_ ?_))<;>rfl),?_⟩
            exact ⟨rfl,rfl⟩
          case' pos =>
            subst he
            rw [if_pos rfl]
            rw [rdV_ok] at hpd
            repeat (refine W.seq ?_)
            refine qW 57 66 rfl rfl rfl (qF rfl rfl ty26 rfl rfl (qL rfl rfl rfl rfl ty24 rfl (Od rfl rfl (C0 (fr:=[]) rfl rfl (hpd) fok30 (.cons rfl (.pure rfl) .nil) rfl) (qM rfl rfl (qX rfl rfl rfl (qX rfl rfl rfl (qB rfl ty74 (qS rfl rfl rfl rfl rfl ty74 rfl rfl (Sl rfl) (qA rfl rfl (Nl ?_))))))))))
            repeat (refine W.seq ?_)
            refine qW 70 72 rfl rfl rfl (qM rfl rfl (qN rfl rfl rfl (Nl (Wf rfl (rfl) (Wk ?_)))))
            repeat (refine W.seq ?_)
            refine qW 83 91 rfl rfl rfl (qG rfl rfl rfl ty74 rfl (Tl rfl) ?_)
            obtain ⟨k,fl,tg,has,ln⟩:=N
            dsimp only at hln hnd ⊢
            obtain ⟨e0,e1,e2,e3,e4,e5,rfl⟩:=six_of hln
            refine Od rfl rfl (C0 (fr:=[]) rfl rfl (hnd) fok31 (.cons rfl (.pure rfl) .nil) rfl) (qM rfl rfl (qX rfl rfl rfl (qX rfl rfl rfl (qB rfl ty78 (qS rfl rfl rfl rfl rfl ty78 rfl rfl (Sl rfl) (qA rfl rfl (Nl ?_)))))))
            cases k5:(ne != 0)
            case' true =>
              have hc:¬ (ne=0∧k=135):=fun h=>by rw [h.1] at k5;cases k5
              rw [if_neg hc]
              repeat (refine W.seq ?_)
              refine qW 95 102 rfl rfl rfl (qM rfl rfl (qN rfl rfl rfl (qM rfl rfl (Sd rfl rfl rfl ‹_› rfl (Sd rfl rfl rfl ‹_› rfl (Sd rfl rfl rfl ‹_› rfl (qT rfl rfl ‹_› rfl (Nl (Wt rfl rfl ?_)))))))))
              repeat (refine W.seq ?_)
              refine qW 106 109 rfl rfl rfl (Od rfl rfl (Bs rfl ty42 .nil) (qS rfl rfl rfl rfl rfl ty42 rfl rfl (Sl rfl) (qA rfl rfl (Nl ?_))))
              refine W.ret ⟨.inl rfl,_,mt,(RVs.cons (RV.cellA rfl rfl ty42 rfl (Tk.lit rfl)) (RVs.cons (RV.tmp rfl) RVs.nil)),(by (repeat' (first|exact all_mt|refine all_up ?_ ?_))<;>rfl),?_⟩
              exact ⟨rfl,rfl⟩
            case' false =>
              have k5':ne=0:=by simpa using k5
              cases k6:(k != 135)
              case' true =>
                have hc:¬ (ne=0∧k=135):=fun h=>by rw [h.2] at k6;cases k6
                rw [if_neg hc]
                repeat (refine W.seq ?_)
                refine qW 95 102 rfl rfl rfl (qM rfl rfl (qN rfl rfl rfl (qM rfl rfl (Gd rfl rfl rfl ‹_› rfl (Fa rfl rfl ty78 rfl (by decide)) (Gd rfl rfl rfl ‹_› rfl (Ld rfl rfl rfl rfl ty3 rfl) (Gd rfl rfl rfl ‹_› rfl (Ne0 rfl rfl rfl) (qP rfl rfl ‹_› rfl (Nl (Wt rfl ‹_› ?_)))))))))
                repeat (refine W.seq ?_)
                refine qW 106 109 rfl rfl rfl (Od rfl rfl (Bs rfl ty42 .nil) (qS rfl rfl rfl rfl rfl ty42 rfl rfl (Sl rfl) (qA rfl rfl (Nl ?_))))
                refine W.ret ⟨.inl rfl,_,mt,(RVs.cons (RV.cellA rfl rfl ty42 rfl (Tk.lit rfl)) (RVs.cons (RV.tmp rfl) RVs.nil)),(by (repeat' (first|exact all_mt|refine all_up ?_ ?_))<;>rfl),?_⟩
                exact ⟨rfl,rfl⟩
              case' false =>
                have k6':k=135:=by simpa using k6
                rw [if_pos ⟨k5',k6'⟩]
                repeat (refine W.seq ?_)
                refine qW 95 102 rfl rfl rfl (qM rfl rfl (qN rfl rfl rfl (qM rfl rfl (Gd rfl rfl rfl ‹_› rfl (Fa rfl rfl ty78 rfl (by decide)) (Gd rfl rfl rfl ‹_› rfl (Ld rfl rfl rfl rfl ty3 rfl) (Gd rfl rfl rfl ‹_› rfl (Ne0 rfl rfl rfl) (qP rfl rfl ‹_› rfl (Nl (Wf rfl ‹_› (Wk ?_))))))))))
                repeat (refine W.seq ?_)
                refine qW 113 117 rfl rfl rfl (qF rfl rfl ty78 rfl rfl (qG rfl rfl rfl ty42 rfl (Tl rfl) (qS rfl rfl rfl rfl rfl ty42 rfl rfl (Sl rfl) (qA rfl rfl (Nl ?_)))))
                refine W.ret ⟨.inl rfl,_,mt,(RVs.cons (RV.cellA rfl rfl ty42 rfl (Tk.lit rfl)) (RVs.cons (RV.tmp rfl) RVs.nil)),(by (repeat' (first|exact all_mt|refine all_up ?_ ?_))<;>rfl),?_⟩
                exact ⟨rfl,rfl⟩
set_option maxHeartbeats 2000000 in
theorem deliverX_any (rs:List Rl) (bs:List Bd) (fm:Int) (f:Fr) (ht:TablesOk rs bs) (hf:FrX f):AFn Tryz.prog 11 0 [.isl (rulesC rs) rs.length,.isl (bdsC bs) bs.length,.base (.int .i64 fm),.agg (frC f)] mt (dlvV (dlvF rs bs fm f)) mt:=by
  refine AFn.eq Tryz.func11 rfl rfl (Nat.le_of_ble_eq_true rfl) ?_
  have hak:=asksX_any f hf
  have hwh:=whereX_any rs f.dst hf.ok.d6 ht.rl ht.rm
  have hbo:=boundX_any bs (asksF f).1 ht.bl ht.bm
  have hbl:=boundP_len ht.bm (asksF f).1
  have hgr:=grpX_any f hf
  rw [whereV_eq] at hwh
  rw [boundV_eq] at hbo
  unfold dlvF
  obtain ⟨T,hT⟩:∃ T,tgtF rs bs f=T:=⟨_,rfl⟩
  rw [hT]
  unfold tgtF at hT
  generalize asksF f=ak at *
  generalize boundP bs ak.1=bp at *
  unfold asksV at hak
  obtain ⟨ad,ak⟩:=ak
  obtain ⟨⟨bad,bmac,bport⟩,bok⟩:=bp
  have hdl:=hf.ok.bl
  have d6:=hf.ok.d6
  have s6:=hf.ok.s6
  obtain ⟨dst,src,vl,ty,data⟩:=f
  clear hf
  dsimp only at *
  generalize whereP rs dst=wp at *
  obtain ⟨wport,wok⟩:=wp
  obtain ⟨d0,d1,d2,d3,d4,d5,rfl⟩:=six_of d6
  obtain ⟨s0,s1,s2,s3,s4,s5,rfl⟩:=six_of s6
  obtain ⟨m0,m1,m2,m3,m4,m5,rfl⟩:=six_of hbl
  obtain ⟨g,hg⟩:∃ g,grpE [d0,d1,d2,d3,d4,d5]=g:=⟨_,rfl⟩
  rw [hg] at hgr hT
  have hdz:(bytesC data).length=data.length * 1:=by rw [bytesC_len];omega
  unfold frC
  dsimp only
  refine Wq (qW 0 4 rfl rfl rfl (qC rfl rfl rfl (qA rfl rfl (qB rfl ty26 (qA rfl rfl (Nl (Wq (qW 8 13 rfl rfl rfl (qF rfl rfl ty26 rfl rfl (qL rfl rfl rfl rfl ty24 rfl (Od rfl rfl (Lan rfl rfl (Ssi rfl rfl hdz) ty24 ty24 ty5 (by decide) (by omega) (by omega) (by decide)) (qF rfl rfl ty26 rfl rfl (qS rfl rfl rfl rfl rfl ty24 rfl rfl (Sl rfl) (Nl (Wv (q:=0) (j:=14) (r:=10) rfl rfl (by decide) rfl (bytes_tk rfl) (bytesC_pure _) (Sl rfl) (Wq (qW 17 19 rfl rfl rfl (qA rfl rfl (qA rfl rfl (Nl ?_))))))))))))))))))))
  cases g
  case' false =>
    rw [if_neg (by decide)] at hT
    subst hT
    refine Wq (Wq (qW 23 26 rfl rfl rfl (qF rfl rfl ty26 rfl rfl (qG rfl rfl rfl ty23 rfl (Tl rfl) (Od rfl rfl (C0 (fr:=[]) rfl rfl (hgr) fok29 (.cons rfl (.pure rfl) .nil) rfl) (Nl (Wf rfl rfl (qW 75 84 rfl rfl rfl (qM rfl rfl (qF rfl rfl ty26 rfl rfl (qG rfl rfl rfl ty23 rfl (Tl rfl) (Od rfl rfl (C0 (fr:=[]) rfl rfl (hwh) fok35 (.cons rfl (.pure rfl) (.cons rfl (.pure rfl) .nil)) rfl) (qM rfl rfl (qX rfl rfl rfl (qX rfl rfl rfl (qA rfl rfl (qA rfl rfl (Nl ?_))))))))))))))))))
    generalize wport=port at *
    generalize wok=ok at *
  case' true =>
    rw [if_pos rfl] at hT
    subst hT
    refine Wq (Wq (qW 23 26 rfl rfl rfl (qF rfl rfl ty26 rfl rfl (qG rfl rfl rfl ty23 rfl (Tl rfl) (Od rfl rfl (C0 (fr:=[]) rfl rfl (hgr) fok29 (.cons rfl (.pure rfl) .nil) rfl) (Nl (Wt rfl rfl (Wq (qW 30 38 rfl rfl rfl (qG rfl rfl rfl ty26 rfl (Tl rfl) (Od rfl rfl (C0 (fr:=[]) rfl rfl (hak) fok9 (.cons rfl (.pure rfl) .nil) rfl) (qM rfl rfl (qX rfl rfl rfl (qX rfl rfl rfl (qB rfl ty42 (qS rfl rfl rfl rfl rfl ty42 rfl rfl (Sl rfl) (qA rfl rfl (Nl (Wq (qW 42 51 rfl rfl rfl (qM rfl rfl (qG rfl rfl rfl ty42 rfl (Tl rfl) (Od rfl rfl (C0 (fr:=[]) rfl rfl (hbo) fok34 (.cons rfl (.pure rfl) (.cons rfl (.pure rfl) .nil)) rfl) (qM rfl rfl (qX rfl rfl rfl (qX rfl rfl rfl (qB rfl ty85 (qS rfl rfl rfl rfl rfl ty85 rfl rfl (Sl rfl) (qA rfl rfl (Nl ?_))))))))))))))))))))))))))))))
    cases ak
    case' false =>
      refine Wq (qW 55 63 rfl rfl rfl (qF rfl rfl ty85 rfl rfl (qL rfl rfl rfl rfl ty3 rfl (qM rfl rfl (qM rfl rfl (Sd rfl rfl rfl rfl rfl (qP rfl rfl rfl rfl (qA rfl rfl (qA rfl rfl (Nl (qW 67 71 rfl rfl rfl (qF rfl rfl ty85 rfl rfl (qG rfl rfl rfl ty23 rfl (Tl rfl) (qF rfl rfl ty26 rfl rfl (qS rfl rfl rfl rfl rfl ty23 rfl rfl (Sl rfl) (Nl (Wq (Wq (qW 88 95 rfl rfl rfl (qM rfl rfl (qO rfl rfl (qM rfl rfl (Sd rfl rfl rfl rfl rfl (Sd rfl rfl rfl rfl rfl (Sd rfl rfl rfl rfl rfl (qT rfl rfl rfl rfl (Nl (Wt rfl rfl (Wq (qW 99 103 rfl rfl rfl (Od rfl rfl (Bs rfl ty26 .nil) (qA rfl rfl (qS rfl rfl rfl rfl rfl ty26 rfl rfl (Sl rfl) (qA rfl rfl (Nl (W.nilc (q:=2) (j:=14) rfl rfl (Sl rfl) ?_))))))))))))))))))))))))))))))))))))
      refine W.ret ⟨.inl rfl,_,mt,(RVs.cons (RV.tmp rfl) (RVs.cons (RV.cellA rfl rfl ty26 rfl (Tk.lit rfl)) (RVs.cons (RV.tmp rfl) RVs.nil))),(by (repeat' (first|exact all_mt|refine all_up ?_ ?_))<;>rfl),?_⟩
      exact ⟨rfl,rfl⟩
    case' true =>
      refine Wq (qW 55 63 rfl rfl rfl (qF rfl rfl ty85 rfl rfl (qL rfl rfl rfl rfl ty3 rfl (qM rfl rfl (qM rfl rfl (Gd rfl rfl rfl rfl rfl (Mv rfl rfl) (qT rfl rfl rfl rfl (qA rfl rfl (qA rfl rfl (Nl (qW 67 71 rfl rfl rfl (qF rfl rfl ty85 rfl rfl (qG rfl rfl rfl ty23 rfl (Tl rfl) (qF rfl rfl ty26 rfl rfl (qS rfl rfl rfl rfl rfl ty23 rfl rfl (Sl rfl) (Nl ?_))))))))))))))))
      generalize bport=port at *
      generalize bok=ok at *
  all_goals
    dsimp only [Bool.true_and]
    cases ok
    case' false =>
      rw [if_pos (.inl rfl)]
      repeat (refine W.seq ?_)
      refine qW 88 95 rfl rfl rfl (qM rfl rfl (qO rfl rfl (qM rfl rfl (Sd rfl rfl rfl rfl rfl (Sd rfl rfl rfl rfl rfl (Sd rfl rfl rfl rfl rfl (qT rfl rfl rfl rfl (Nl (Wt rfl rfl ?_)))))))))
      repeat (refine W.seq ?_)
      refine qW 99 103 rfl rfl rfl (Od rfl rfl (Bs rfl ty26 .nil) (qA rfl rfl (qS rfl rfl rfl rfl rfl ty26 rfl rfl (Sl rfl) (qA rfl rfl (Nl (W.nilc (q:=2) (j:=14) rfl rfl (Sl rfl) ?_))))))
      refine W.ret ⟨.inl rfl,_,mt,(RVs.cons (RV.tmp rfl) (RVs.cons (RV.cellA rfl rfl ty26 rfl (Tk.lit rfl)) (RVs.cons (RV.tmp rfl) RVs.nil))),(by (repeat' (first|exact all_mt|refine all_up ?_ ?_))<;>rfl),?_⟩
      exact ⟨rfl,rfl⟩
    case' true =>
      cases k1:(port == fm)
      case' true =>
        rw [if_pos (.inr (by simpa using k1))]
        repeat (refine W.seq ?_)
        refine qW 88 95 rfl rfl rfl (qM rfl rfl (qO rfl rfl (qM rfl rfl (Gd rfl rfl rfl rfl rfl (Mv rfl rfl) (Gd rfl rfl rfl rfl rfl (Mv rfl rfl) (Gd rfl rfl rfl rfl rfl (Eq0 rfl rfl rfl) (qP rfl rfl rfl rfl (Nl (Wt rfl ‹_› ?_)))))))))
        repeat (refine W.seq ?_)
        refine qW 99 103 rfl rfl rfl (Od rfl rfl (Bs rfl ty26 .nil) (qA rfl rfl (qS rfl rfl rfl rfl rfl ty26 rfl rfl (Sl rfl) (qA rfl rfl (Nl (W.nilc (q:=2) (j:=14) rfl rfl (Sl rfl) ?_))))))
        refine W.ret ⟨.inl rfl,_,mt,(RVs.cons (RV.tmp rfl) (RVs.cons (RV.cellA rfl rfl ty26 rfl (Tk.lit rfl)) (RVs.cons (RV.tmp rfl) RVs.nil))),(by (repeat' (first|exact all_mt|refine all_up ?_ ?_))<;>rfl),?_⟩
        exact ⟨rfl,rfl⟩
      case' false =>
        rw [if_neg (by rintro (h | h); · cases h
                       · rw [h] at k1;simp at k1)]
        repeat (refine W.seq ?_)
        refine qW 88 95 rfl rfl rfl (qM rfl rfl (qO rfl rfl (qM rfl rfl (Gd rfl rfl rfl rfl rfl (Mv rfl rfl) (Gd rfl rfl rfl rfl rfl (Mv rfl rfl) (Gd rfl rfl rfl rfl rfl (Eq0 rfl rfl rfl) (qP rfl rfl rfl rfl (Nl (Wf rfl ‹_› (Wk ?_))))))))))
        repeat (refine W.seq ?_)
        refine Wd 107 112 (by decide) rfl mixed rfl (qM rfl rfl (qG rfl rfl rfl ty26 rfl (Tl rfl) (qA rfl rfl (qS rfl rfl rfl rfl rfl ty26 rfl rfl (Sl rfl) (qA rfl rfl (Nl ⟨by kernel_rfl,?_⟩))))))
        refine W.ret ⟨.inl rfl,_,mt,(RVs.cons (RV.tmp rfl) (RVs.cons (RV.cellA rfl rfl ty26 rfl (Tk.lit rfl)) (RVs.cons (RV.tmp rfl) RVs.nil))),(by (repeat' (first|exact all_mt|refine all_up ?_ ?_))<;>rfl),?_⟩
        exact ⟨rfl,rfl⟩
end Go.Proofs.YtcidmiacfjdepaaGreatDoor
namespace Go.Proofs.YtcidmiacfjdepaaGreatDoor
open Go.RowKit
set_option maxHeartbeats 4000000 in
theorem setting_any (l:List Int) (hl:l.length≤9223372036854775807) :
    ∃ v H',AFn Tryz.prog 6 0 [.isl (l.map fun z=>.base (.int .i64 z)) l.length] mt v H' ∧
      ∃ (d:Db) (g:Int→Int) (bs:List Bd) (j:Nat) (f:Fr) (hj:j < (allP d).length),(DbFine l d∧List.Perm bs (bdsOf (allP d))∧MacOk bs∧FrY f) ∧
        v=.tup [.isl (rulesC ((allP d).map (ruleOf g 2 3))) ((allP d).map (ruleOf g 2 3)).length,.isl (bdsC bs) bs.length,.agg (ruleC (ruleOf g 2 3 (allP d)[j])),.agg (frC f)]∧H'=mt:=by
  refine AFn.ex Tryz.func6 rfl rfl (Nat.le_of_ble_eq_true rfl) ?_
  have hnew:=new_any l
  obtain ⟨vd,Hd,hdb,d,a1,hmade,rfl,rfl⟩:=database_any l 0 hl
  have hfine:=hmade.fine
  have hlen:=hfine.len
  obtain ⟨g,hru⟩:=rules_any d hfine.ok hfine.once hfine.ports (by omega) 2 3 (by decide)
  obtain ⟨vb,Hb,hbi,bs,⟨hperm,hmo⟩,rfl,rfl⟩:=bindings_any d hfine.ok hfine.ports (by omega) (fun p hp=>by
    obtain ⟨i,hi,rfl⟩:=List.getElem_of_mem hp
    exact (hfine.good i hi).ok (by omega) (by omega))
  have hrl:((allP d).map (ruleOf g 2 3)).length=(allP d).length:=List.length_map _
  obtain ⟨j,hj,hjb⟩:=nat_of (nextV_bd l a1 (((allP d).map (ruleOf g 2 3)).length:Int) (by omega))
  have n4:=next_any l a1 (((allP d).map (ruleOf g 2 3)).length:Int) (by omega) (by omega) hl
  rw [hj] at n4
  have hj2:j < (allP d).length:=by omega
  have tJ:=rules_tk (l:=(allP d).map (ruleOf g 2 3)) (k:=j) (by omega)
  rw [List.getElem_map] at tJ
  have hrok:=hfine.rok g 2 3
  have hone:RlOk (ruleOf g 2 3 (allP d)[j]):=hrok _ (List.mem_map.2 ⟨_,List.getElem_mem hj2,rfl⟩)
  obtain ⟨_,_,hfr,f,a3,hfx,rfl,rfl⟩:=frame_any l (nextAt l a1) (ruleOf g 2 3 (allP d)[j]) ((allP d).map (ruleOf g 2 3)) hone hrok (by omega) (by omega) hl
  have p6:=hfx.ok.d6
  have q6:=hfx.ok.s6
  have hex : ∃ (dd : Db) (gg : Int → Int) (bb : List Bd) (i : Nat) (ff : Fr) (hi : i < (allP dd).length), (DbFine l dd ∧ List.Perm bb (bdsOf (allP dd)) ∧ MacOk bb ∧ FrY ff) ∧
        AV.tup [.isl (rulesC ((allP d).map (ruleOf g 2 3))) ((allP d).map (ruleOf g 2 3)).length,.isl (bdsC bs) bs.length,.agg (ruleC (ruleOf g 2 3 (allP d)[j])),.agg (frC f)]=.tup [.isl (rulesC ((allP dd).map (ruleOf gg 2 3))) ((allP dd).map (ruleOf gg 2 3)).length,.isl (bdsC bb) bb.length,.agg (ruleC (ruleOf gg 2 3 (allP dd)[i])),.agg (frC ff)] :=
    ⟨d,g,bs,j,f,hj2,⟨hfine,hperm,hmo,hfx⟩,rfl⟩
  obtain ⟨fd,fs,fv,ft,fx⟩:=f
  dsimp only at p6 q6
  obtain ⟨p0,p1,p2,p3,p4,p5,rfl⟩:=six_of p6
  obtain ⟨q0,q1,q2,q3,q4,q5,rfl⟩:=six_of q6
  generalize (allP d)[j]=P at *
  generalize hgr:(allP d).map (ruleOf g 2 3)=rs at *
  have hj3:j < rs.length:=by omega
  clear hfine hmade hrok hone hj
  refine Wq (qW 0 4 rfl rfl rfl (qA rfl rfl (qA rfl rfl (qB rfl ty35 (qB rfl ty26 (Nl (Wq (qW 8 11 rfl rfl rfl (qM rfl rfl (Od rfl rfl (CN (fr:=[]) rfl rfl (hnew) fok13 (.cons rfl (.pure rfl) .nil) rfl (by decide)) (qA rfl rfl (Nl (Wq (qW 15 19 rfl rfl rfl (qM rfl rfl (Od rfl rfl (C1 (fr:=[]) rfl rfl (hdb) fok14 (.own rfl rfl .nil) rfl rfl rfl (Cn _ _) (by decide) rfl) (qB rfl ty53 (qS rfl rfl rfl rfl rfl ty53 rfl rfl (Sl rfl) (Nl (Wq (qW 23 30 rfl rfl rfl (qG rfl rfl rfl ty53 rfl (Tl rfl) (Od rfl rfl (C0 (fr:=[]) rfl rfl (hru) fok15 (.cons rfl (.pure rfl) (.cons rfl (.pure rfl) (.cons rfl (.pure rfl) .nil))) rfl) (qM rfl rfl (qX rfl rfl rfl (qX rfl rfl rfl (qA rfl rfl (qA rfl rfl (Nl (Wq (qW 34 43 rfl rfl rfl (qM rfl rfl (qM rfl rfl (qM rfl rfl (qH rfl rfl rfl ty30 (Od rfl rfl (C1 (fr:=[]) rfl rfl (n4) fok20 (.own rfl rfl (.cons rfl (.pure rfl) .nil)) rfl rfl rfl (Cn _ _) (by decide) rfl) (qJ rfl rfl rfl rfl rfl ty30 ty35 (by first|omega|decide|assumption|(simp;done)|(simp;omega)) (Od rfl rfl (Lg rfl rfl ty35 rfl tJ) (qB rfl ty35 (qS rfl rfl rfl rfl rfl ty35 rfl rfl (Sl rfl) (Nl (Wq (Wd 47 59 (by decide) rfl mixed rfl (qM rfl rfl (qG rfl rfl rfl ty53 rfl (Tl rfl) (Od rfl rfl (C0 (fr:=[]) rfl rfl (hbi) fok16 (.cons rfl (.pure rfl) .nil) rfl) (qG rfl rfl rfl ty35 rfl (Tl rfl) (qM rfl rfl (qG rfl rfl rfl ty35 rfl (Tl rfl) (qM rfl rfl (Od rfl rfl (C1 (fr:=[]) rfl rfl (hfr) fok21 (.own rfl rfl (.cons rfl (.pure rfl) (.cons rfl (.pure rfl) .nil))) rfl rfl rfl (Cn _ _) (by decide) rfl) (qA rfl rfl (qA rfl rfl (qS rfl rfl rfl rfl rfl ty35 rfl rfl (Sl rfl) (qS rfl rfl rfl rfl rfl ty26 rfl rfl (Sl rfl) (Nl ⟨by kernel_rfl,?_⟩))))))))))))))))))))))))))))))))))))))))))))))))))))))))
  refine W.ret ⟨.inl rfl,_,mt,(RVs.cons (RV.tmp rfl) (RVs.cons (RV.tmp rfl) (RVs.cons (RV.cellA rfl rfl ty35 rfl (Tk.lit rfl)) (RVs.cons (RV.cellA rfl rfl ty26 rfl (Tk.lit rfl)) RVs.nil)))),(by (repeat' (first|exact all_mt|refine all_up ?_ ?_))<;>rfl),?_⟩
  obtain ⟨dd,gg,bb,i,ff,hi,h1,h2⟩:=hex
  exact ⟨dd,gg,bb,i,ff,hi,h1,h2,rfl⟩
end Go.Proofs.YtcidmiacfjdepaaGreatDoor
