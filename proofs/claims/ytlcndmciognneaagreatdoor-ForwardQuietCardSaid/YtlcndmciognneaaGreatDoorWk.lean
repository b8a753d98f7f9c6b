/-
  ForwardQuiet: its law.
-/
import Derived.Test.YtlcndmciognneaaGreatDoorWj
import Derived.Test.YtlcndmciognneaaGreatDoorMab
namespace Go.Proofs.YtlcndmciognneaaGreatDoor
open Go.RowKit
theorem newB_any (r b:Int):AFn Tryz.prog 27 0 [.base (.int .i64 r),.base (.int .i64 b)] mt (.agg (bkC ⟨b,r,b⟩)) mt:=by
  refine AFn.eq Tryz.func27 rfl rfl (Nat.le_of_ble_eq_true rfl) (Wq (qW 0 1 rfl (qB rfl ty46 (Nl (Wq (qW 5 10 rfl (qM rfl (qM rfl (qM rfl (Od rfl rfl (Bs rfl ty46 (.cons rfl rfl rfl rfl (Sl rfl) (.cons rfl rfl rfl rfl (Sl rfl) (.cons rfl rfl rfl rfl (Sl rfl) .nil)))) (qS rfl ty46 (Sl rfl) rfl (Nl ?_))))))))))))
  refine W.ret ⟨.inl rfl,_,mt,(RVs.cons (RV.cellA rfl rfl ty46 rfl (Tk.lit rfl)) RVs.nil),(by (repeat' (first|exact all_mt|refine all_up ?_ ?_))<;>rfl),?_⟩
  exact ⟨rfl,rfl⟩
theorem tickB_any (lv:Int) (h:0≤lv∧lv≤3):AFn Tryz.prog 28 0 [.agg (bkC ⟨lv,2,3⟩)] mt (.agg (bkC ⟨if 3 < lv + 2 then 3 else lv + 2,2,3⟩)) mt:=by
  refine AFn.eq Tryz.func28 rfl rfl (Nat.le_of_ble_eq_true rfl) ?_
  unfold bkC
  dsimp only
  refine Wq (qW 0 2 rfl (qC rfl (qB rfl ty46 (Nl (Wq (qW 6 16 rfl (qF rfl ty46 rfl (qL rfl ty3 rfl (qF rfl ty46 rfl (qL rfl ty3 rfl (qZ rfl (iW _ (by omega)) (qF rfl ty46 rfl (qL rfl ty3 rfl (Od rfl rfl (LO.min rfl rfl rfl) (qF rfl ty46 rfl (qS rfl ty3 (Sl rfl) rfl (Nl (Wq (qW 20 22 rfl (qG rfl ty46 rfl (Tl rfl) (qS rfl ty46 (Sl rfl) rfl (Nl ?_))))))))))))))))))))))
  refine W.ret ⟨.inl rfl,_,mt,(RVs.cons (RV.cellA rfl rfl ty46 rfl (Tk.lit rfl)) RVs.nil),(by (repeat' (first|exact all_mt|refine all_up ?_ ?_))<;>rfl),?_⟩
  exact ⟨rfl,rfl⟩
set_option maxHeartbeats 8000000 in
theorem quiet_law (l:List Int) (ticks n:Int) (hl:l.length≤9223372036854775807):AFn Tryz.prog 5 0 [.isl (l.map fun z=>.base (.int .i64 z)) l.length,.base (.int .i64 ticks),.base (.int .i64 n)] mt (.base (.bool true)) mt:=by
  refine AFn.eq Tryz.func5 rfl rfl (Nat.le_of_ble_eq_true rfl) ?_
  have hawk:=awake14_any
  have hnew:=new_any l
  obtain ⟨_,_,hset,ld,d,g,bs,j,f,fb,a1,hj,⟨hfine,hperm,hmo,hfy,hfok⟩,rfl,rfl⟩:=setting14_any l 0 hl
  have htab:=hfine.tables g 2 3 hperm hmo
  have hlen:=hfine.len
  have hrok:=hfine.rok g 2 3
  have hrn:((allP d).map (ruleOf g 2 3)).length≤1000:=by rw [List.length_map];omega
  have hfx:=hfy.x
  have hfs:FabS fb:=FabOK.s hfok.sw7 hfok.nlinks hfok.dead
  have hPm:(allP d)[j]∈allP d:=List.getElem_mem hj
  have hm1:=mod_any ticks 12 (by decide) (by decide)
  have hm2:=mod_any n 9 (by decide) (by decide)
  have hB:=newB_any 2 3
  have hse:=fun (lv:Int) (h:0≤lv∧lv≤3)=>sendE_any ((allP d).map (ruleOf g 2 3)) bs fb ⟨lv,2,3⟩ (allP d)[j].id f hrn hrok htab hfs hfok.ends ⟨by dsimp only;omega,by dsimp only;decide,by dsimp only;decide⟩ hfx (hfine.full hperm _ _)
  have hsent:=fun (lv:Int)=>hfine.sent (g:=g) hperm hfs hPm f lv
  have hgr:=grpX_any f hfx
  have hpok:∀ p,p∈allP d→PrtOk p:=fun p hp=>by
    obtain ⟨i,hi,rfl⟩:=List.getElem_of_mem hp
    exact (hfine.good i hi).ok (by omega) (by omega)
  have ht0:0≤ticks % 12∧ticks % 12 < 12:=by omega
  have hn0:0≤n % 9∧n % 9 < 9:=by omega
  generalize hPg:(allP d)[j]=P at *
  generalize (allP d).map (ruleOf g 2 3)=rs at *
  generalize hff:fwdF rs bs fb=ff at *
  unfold fwdV at hse
  clear hff hPg
  generalize ticks % 12=tk at *
  generalize n % 9=nn at *
  obtain ⟨fsw,flk,fdn,fdd⟩:=fb
  obtain ⟨fd,fs,fv,ft,fx⟩:=f
  have h3:=hfx.ok.d6
  have h4:=hfx.ok.s6
  clear hfx hfy hmo htab hrok hrn hfok hfs hperm hj hlen
  dsimp only at h3 h4 hgr
  obtain ⟨d0,d1,d2,d3,d4,d5,rfl⟩:=six_of h3
  obtain ⟨s0,s1,s2,s3,s4,s5,rfl⟩:=six_of h4
  unfold ruleOf at hset
  refine Wq (qW 0 1 rfl (qA rfl (Nl (Wq (qW 5 8 rfl (qM rfl (Od rfl rfl (CN (fr:=[]) rfl rfl (hnew) fok16 (.cons rfl (.pure rfl) .nil) rfl (by decide)) (qA rfl (Nl (Wq (qW 12 28 rfl (qM rfl (Od rfl rfl (C1 (fr:=[]) rfl rfl (hset) fok15 (.own rfl rfl .nil) rfl rfl rfl (Cn _ _) (by decide) rfl) (qM rfl (qX rfl (qX rfl (qX rfl (qX rfl (qX rfl (qB rfl ty35 (qB rfl ty39 (qB rfl ty26 (qA rfl (qA rfl (qS rfl ty35 (Sl rfl) rfl (qS rfl ty39 (Sl rfl) rfl (qS rfl ty26 (Sl rfl) rfl (Nl (Wq (qW 32 39 rfl (qF rfl ty39 rfl (qL rfl ty3 rfl (qF rfl ty39 rfl (qL rfl ty3 rfl (qY rfl (hB) fok27 rfl (qB rfl ty46 (qS rfl ty46 (Sl rfl) rfl (Nl (Wq (qW 43 44 rfl (qA rfl (Nl (Wq (Wq (qW 48 51 rfl (qM rfl (qY rfl (hm1) fok17 rfl (qM rfl (Nl (Wb (W.loop_keep (α:=Nat × Int × Int) (fun x=>12 - x.1) 4 (fun x=>[(10,.own 0 0),(11,.own 1 0),(12,.own 2 0),(13,.own 3 0),(14,.base (.int .i64 x.2.2)),(35,.base (.int .i64 (x.1:Int)))]) (fun x=>up (up (up (up mt 0 (some (fabC ⟨fsw,flk,fdn,fdd⟩))) 1 (some ([.base (.int .i64 P.id),.base (.int .i64 (g P.id)),.base (.int .i64 P.sw),.isl (macsC P.macs) P.macs.length,.isl (adsC (ad1 P.v4)) (ad1 P.v4).length,.isl (adsC (ad1 P.v6)) (ad1 P.v6).length,.base (.int .i64 2),.base (.int .i64 3)]))) 2 (some (frC ⟨[d0,d1,d2,d3,d4,d5],[s0,s1,s2,s3,s4,s5],fv,ft,fx⟩))) 3 (some (bkC ⟨x.2.1,2,3⟩))) (fun x=>(x.1:Int)≤tk∧0≤x.2.2∧0≤x.2.1∧x.2.1≤3∧x.2.2 + x.2.1≤3 + 2 * (x.1:Int)∧(x.2.2≤3 + 2 * ((x.1:Int) - 1)∨(x.1=0∧x.2.2≤3))) (0,3,0) [(0,20),(1,21),(2,22),(3,37)] (.cons (t:=1) rfl (by exact .inl rfl) (.cons (t:=2) rfl (by exact .inl rfl) (.cons (t:=8) rfl (by exact .inl rfl) (.cons (t:=9) rfl (by exact .inl rfl) (.cons (t:=34) rfl (by exact .inl rfl) .nil))))) (show (0:Int)≤tk∧0≤0∧0≤3∧3≤3∧0 + 3≤3 + 2 * (0:Int)∧(0≤3 + 2 * ((0:Int) - 1)∨(0=0∧0≤3)) from by omega) (by decide) ?_ ?_ ?_)))))))))))))))))))))))))))))))))))))))))))))))))))
  · exact lC (lI rfl) (lC (lI rfl) (lC (lI rfl) (lC (lI rfl) (lC (lR rfl) (lC (lR rfl) lN)))))
  · exact aU (kR rfl) (aU (kR rfl) (aU (kR rfl) (aU (kR rfl) aM)))
  rintro ⟨i,lv,got⟩ hIA ihA
  try (dsimp only at hIA)
  try dsimp only [baseT,List.cons_append,List.nil_append]
  by_cases hc:(i:Int) < tk
  · have g1:decide ((i:Int) < tk)=true:=decide_eq_true hc
    refine Wq (qW 55 56 rfl (qK rfl (Nl (Wq (Wt rfl ‹_› (Wu (Wq (Wb (Wq (Wq (qW 60 63 rfl (qM rfl (qY rfl (hm2) fok17 rfl (qM rfl (Nl (Wb (W.loop_keep (α:=Nat × Int × Int) (fun x=>9 - x.1) 4 (fun x=>[(10,.own 0 0),(11,.own 1 0),(12,.own 2 0),(13,.own 3 0),(14,.base (.int .i64 x.2.2)),(39,.base (.int .i64 (x.1:Int)))]) (fun x=>up (up (up (up mt 0 (some (fabC ⟨fsw,flk,fdn,fdd⟩))) 1 (some ([.base (.int .i64 P.id),.base (.int .i64 (g P.id)),.base (.int .i64 P.sw),.isl (macsC P.macs) P.macs.length,.isl (adsC (ad1 P.v4)) (ad1 P.v4).length,.isl (adsC (ad1 P.v6)) (ad1 P.v6).length,.base (.int .i64 2),.base (.int .i64 3)]))) 2 (some (frC ⟨[d0,d1,d2,d3,d4,d5],[s0,s1,s2,s3,s4,s5],fv,ft,fx⟩))) 3 (some (bkC ⟨x.2.1,2,3⟩))) (fun x=>(x.1:Int)≤nn∧0≤x.2.2∧0≤x.2.1∧x.2.1≤3∧x.2.2 + x.2.1≤3 + 2 * (i:Int)) (0,lv,got) [(0,0),(1,1),(2,2),(3,3)] (.cons (t:=1) rfl (by exact .inl rfl) (.cons (t:=2) rfl (by exact .inl rfl) (.cons (t:=8) rfl (by exact .inl rfl) (.cons (t:=9) rfl (by exact .inl rfl) (.cons (t:=34) rfl (by exact .inl rfl) (.cons (t:=35) rfl (by exact .inl rfl) (.cons (t:=38) rfl (by exact .inl rfl) .nil))))))) (show (0:Int)≤nn∧0≤got∧0≤lv∧lv≤3∧got + lv≤3 + 2 * (i:Int) from by omega) (by decide) ?_ ?_ ?_)))))))))))))))))
    · exact lC (lI rfl) (lC (lI rfl) (lC (lI rfl) (lC (lI rfl) (lC (lR rfl) (lC (lR rfl) lN)))))
    · exact aU (kR rfl) (aU (kR rfl) (aU (kR rfl) (aU (kR rfl) aM)))
    rintro ⟨k,lw,gt⟩ hIB ihB
    try (dsimp only at hIB)
    try dsimp only [baseT,List.cons_append,List.nil_append]
    by_cases hd:(k:Int) < nn
    · have g2:decide ((k:Int) < nn)=true:=decide_eq_true hd
      have hse1:=hse lw (by omega)
      obtain ⟨hb,hres⟩:=hsent lw
      generalize ff ⟨lw,2,3⟩ P.id ⟨[d0,d1,d2,d3,d4,d5],[s0,s1,s2,s3,s4,s5],fv,ft,fx⟩=s at *
      obtain ⟨u,bk2,v⟩:=s
      dsimp only at hse1 hb hres
      refine Wq (qW 67 68 rfl (qK rfl (Nl (Wq (Wt rfl ‹_› (Wu (Wq (Wb ?_))))))))
      rcases hres with ⟨hv,rfl⟩|⟨rfl,hno,q,lk,m,q1,q2,rfl,q4,q5,q6,q7⟩
      · have e0:(v == 0)=false:=by simpa using hv
        rcases hb with rfl|⟨rfl,hgr1,hpos⟩
        · skip
          refine Wq (Wd 72 91 (by decide) rfl mixed rfl (qM rfl (qM rfl (qY rfl (lan4_any) fok19 rfl (qY rfl (lan6_any) fok20 rfl (qG rfl ty35 rfl (Tl rfl) (qG rfl ty46 rfl (Tl rfl) (qF rfl ty39 rfl (qL rfl ty3 rfl (qG rfl ty26 rfl (Tl rfl) (Od rfl rfl (C0 (fr:=[]) rfl rfl (hse1) fok18 (.cons rfl (.pure rfl) (.cons rfl (.pure rfl) (.cons rfl (.pure rfl) (.cons rfl (.pure rfl) (.cons rfl (.pure rfl) (.cons rfl (.pure rfl) (.cons rfl (.pure rfl) (.cons rfl (.pure rfl) .nil)))))))) rfl) (qM rfl (qX rfl (qX rfl (qX rfl (qB rfl ty49 (qB rfl ty46 (qS rfl ty49 (Sl rfl) rfl (qS rfl ty46 (Sl rfl) rfl (qA rfl (Nl ⟨by kernel_rfl,(Wq (qW 95 97 rfl (qG rfl ty46 rfl (Tl rfl) (qS rfl ty46 (Sl rfl) rfl (Nl (Wq (qW 101 113 rfl (qM rfl (qE rfl (qM rfl (qD rfl ‹_› rfl (qD rfl ‹_› rfl (qD rfl ‹_› rfl (qP rfl ‹_› rfl (qM rfl (qD rfl rfl rfl (qD rfl rfl rfl (qD rfl rfl rfl (qP rfl rfl rfl (Nl (Wo rfl rfl (Wu (qW 124 126 rfl (qZ rfl (iW _ (by omega)) (qM rfl (Nl (WL.renameL [(0,0),(1,1),(2,2),(3,3)] 4 (by decide) ?_ ?_ (ihB ((k + 1),lw,gt) (show 9 - (k + 1) < 9 - k from by omega) (show ((k + 1):Int)≤nn∧0≤gt∧0≤lw∧lw≤3∧gt + lw≤3 + 2 * (i:Int) from by omega)))))))))))))))))))))))))))))⟩)))))))))))))))))))))
          · exact lC (lI rfl) (lC (lI rfl) (lC (lI rfl) (lC (lI rfl) (lC (lR rfl) (lC (lR rfl) (lC (lR rfl) (lC (lR rfl) (lC (lR rfl) (lC (lR rfl) (lC (lR rfl) (lC (lR rfl) (lC (lR rfl) lN))))))))))))
          · exact aU (kR rfl) (aU (kR rfl) (aU (kR rfl) (aU (kR rfl) aM)))
        · skip
          refine Wq (Wd 72 91 (by decide) rfl mixed rfl (qM rfl (qM rfl (qY rfl (lan4_any) fok19 rfl (qY rfl (lan6_any) fok20 rfl (qG rfl ty35 rfl (Tl rfl) (qG rfl ty46 rfl (Tl rfl) (qF rfl ty39 rfl (qL rfl ty3 rfl (qG rfl ty26 rfl (Tl rfl) (Od rfl rfl (C0 (fr:=[]) rfl rfl (hse1) fok18 (.cons rfl (.pure rfl) (.cons rfl (.pure rfl) (.cons rfl (.pure rfl) (.cons rfl (.pure rfl) (.cons rfl (.pure rfl) (.cons rfl (.pure rfl) (.cons rfl (.pure rfl) (.cons rfl (.pure rfl) .nil)))))))) rfl) (qM rfl (qX rfl (qX rfl (qX rfl (qB rfl ty49 (qB rfl ty46 (qS rfl ty49 (Sl rfl) rfl (qS rfl ty46 (Sl rfl) rfl (qA rfl (Nl ⟨by kernel_rfl,(Wq (qW 95 97 rfl (qG rfl ty46 rfl (Tl rfl) (qS rfl ty46 (Sl rfl) rfl (Nl (Wq (qW 101 113 rfl (qM rfl (qE rfl (qM rfl (qD rfl ‹_› rfl (qD rfl ‹_› rfl (qD rfl ‹_› rfl (qP rfl ‹_› rfl (qM rfl (qD rfl rfl rfl (qD rfl rfl rfl (qD rfl rfl rfl (qP rfl rfl rfl (Nl (Wo rfl rfl (Wu (qW 124 126 rfl (qZ rfl (iW _ (by omega)) (qM rfl (Nl (WL.renameL [(0,0),(1,1),(2,2),(3,3)] 4 (by decide) ?_ ?_ (ihB ((k + 1),(lw - 1),gt) (show 9 - (k + 1) < 9 - k from by omega) (show ((k + 1):Int)≤nn∧0≤gt∧0≤(lw - 1)∧(lw - 1)≤3∧gt + (lw - 1)≤3 + 2 * (i:Int) from by omega)))))))))))))))))))))))))))))⟩)))))))))))))))))))))
          · exact lC (lI rfl) (lC (lI rfl) (lC (lI rfl) (lC (lI rfl) (lC (lR rfl) (lC (lR rfl) (lC (lR rfl) (lC (lR rfl) (lC (lR rfl) (lC (lR rfl) (lC (lR rfl) (lC (lR rfl) (lC (lR rfl) lN))))))))))))
          · exact aU (kR rfl) (aU (kR rfl) (aU (kR rfl) (aU (kR rfl) aM)))
      · have m6:m.length=6:=((hpok q q1).macs m q4).1
        obtain ⟨m0,m1,m2,m3,m4,m5,rfl⟩:=six_of m6
        have e0:((0:Int) == 0)=true:=rfl
        by_cases hu:q.id > 0
        · have e1:decide (q.id > 0)=true:=decide_eq_true hu
          rcases hb with rfl|⟨rfl,hgr1,hpos⟩
          · rw [hno rfl] at hgr
            refine Wq (Wd 72 91 (by decide) rfl mixed rfl (qM rfl (qM rfl (qY rfl (lan4_any) fok19 rfl (qY rfl (lan6_any) fok20 rfl (qG rfl ty35 rfl (Tl rfl) (qG rfl ty46 rfl (Tl rfl) (qF rfl ty39 rfl (qL rfl ty3 rfl (qG rfl ty26 rfl (Tl rfl) (Od rfl rfl (C0 (fr:=[]) rfl rfl (hse1) fok18 (.cons rfl (.pure rfl) (.cons rfl (.pure rfl) (.cons rfl (.pure rfl) (.cons rfl (.pure rfl) (.cons rfl (.pure rfl) (.cons rfl (.pure rfl) (.cons rfl (.pure rfl) (.cons rfl (.pure rfl) .nil)))))))) rfl) (qM rfl (qX rfl (qX rfl (qX rfl (qB rfl ty49 (qB rfl ty46 (qS rfl ty49 (Sl rfl) rfl (qS rfl ty46 (Sl rfl) rfl (qA rfl (Nl ⟨by kernel_rfl,(Wq (qW 95 97 rfl (qG rfl ty46 rfl (Tl rfl) (qS rfl ty46 (Sl rfl) rfl (Nl (Wq (qW 101 113 rfl (qM rfl (qE rfl (qM rfl (qU rfl rfl rfl (Fa rfl rfl ty49 rfl (by decide)) (qU rfl rfl rfl (Ld rfl rfl rfl rfl ty3 rfl) (qU rfl rfl rfl (Gt0 rfl rfl rfl) (qT rfl rfl rfl (qM rfl (qU rfl ‹_› rfl (Fa rfl rfl ty26 rfl (by decide)) (qU rfl ‹_› rfl (La rfl rfl rfl ty23 rfl (Tl rfl)) (qU rfl ‹_› rfl (C0 (fr:=[]) rfl rfl (hgr) fok23 (.cons rfl (.pure rfl) .nil) rfl) (qT rfl ‹_› rfl (Nl (Wo rfl rfl (Wu (qW 124 126 rfl (qZ rfl (iW _ (by omega)) (qM rfl (Nl (WL.renameL [(0,0),(1,1),(2,2),(3,3)] 4 (by decide) ?_ ?_ (ihB ((k + 1),lw,gt) (show 9 - (k + 1) < 9 - k from by omega) (show ((k + 1):Int)≤nn∧0≤gt∧0≤lw∧lw≤3∧gt + lw≤3 + 2 * (i:Int) from by omega)))))))))))))))))))))))))))))⟩)))))))))))))))))))))
            · exact lC (lI rfl) (lC (lI rfl) (lC (lI rfl) (lC (lI rfl) (lC (lR rfl) (lC (lR rfl) (lC (lR rfl) (lC (lR rfl) (lC (lR rfl) (lC (lR rfl) (lC (lR rfl) (lC (lR rfl) (lC (lR rfl) lN))))))))))))
            · exact aU (kR rfl) (aU (kR rfl) (aU (kR rfl) (aU (kR rfl) aM)))
          · rw [hgr1] at hgr
            refine Wq (Wd 72 91 (by decide) rfl mixed rfl (qM rfl (qM rfl (qY rfl (lan4_any) fok19 rfl (qY rfl (lan6_any) fok20 rfl (qG rfl ty35 rfl (Tl rfl) (qG rfl ty46 rfl (Tl rfl) (qF rfl ty39 rfl (qL rfl ty3 rfl (qG rfl ty26 rfl (Tl rfl) (Od rfl rfl (C0 (fr:=[]) rfl rfl (hse1) fok18 (.cons rfl (.pure rfl) (.cons rfl (.pure rfl) (.cons rfl (.pure rfl) (.cons rfl (.pure rfl) (.cons rfl (.pure rfl) (.cons rfl (.pure rfl) (.cons rfl (.pure rfl) (.cons rfl (.pure rfl) .nil)))))))) rfl) (qM rfl (qX rfl (qX rfl (qX rfl (qB rfl ty49 (qB rfl ty46 (qS rfl ty49 (Sl rfl) rfl (qS rfl ty46 (Sl rfl) rfl (qA rfl (Nl ⟨by kernel_rfl,(Wq (qW 95 97 rfl (qG rfl ty46 rfl (Tl rfl) (qS rfl ty46 (Sl rfl) rfl (Nl (Wq (qW 101 113 rfl (qM rfl (qE rfl (qM rfl (qU rfl rfl rfl (Fa rfl rfl ty49 rfl (by decide)) (qU rfl rfl rfl (Ld rfl rfl rfl rfl ty3 rfl) (qU rfl rfl rfl (Gt0 rfl rfl rfl) (qT rfl rfl rfl (qM rfl (qU rfl ‹_› rfl (Fa rfl rfl ty26 rfl (by decide)) (qU rfl ‹_› rfl (La rfl rfl rfl ty23 rfl (Tl rfl)) (qU rfl ‹_› rfl (C0 (fr:=[]) rfl rfl (hgr) fok23 (.cons rfl (.pure rfl) .nil) rfl) (qT rfl ‹_› rfl (Nl (Wt rfl rfl (qW 117 120 rfl (qM rfl (qZ rfl (iW _ (by omega)) (qA rfl (Nl (qW 124 126 rfl (qZ rfl (iW _ (by omega)) (qM rfl (Nl (WL.renameL [(0,0),(1,1),(2,2),(3,3)] 4 (by decide) ?_ ?_ (ihB ((k + 1),(lw - 1),(gt + 1)) (show 9 - (k + 1) < 9 - k from by omega) (show ((k + 1):Int)≤nn∧0≤(gt + 1)∧0≤(lw - 1)∧(lw - 1)≤3∧(gt + 1) + (lw - 1)≤3 + 2 * (i:Int) from by omega)))))))))))))))))))))))))))))))))⟩)))))))))))))))))))))
            · exact lC (lI rfl) (lC (lI rfl) (lC (lI rfl) (lC (lI rfl) (lC (lR rfl) (lC (lR rfl) (lC (lR rfl) (lC (lR rfl) (lC (lR rfl) (lC (lR rfl) (lC (lR rfl) (lC (lR rfl) (lC (lR rfl) lN))))))))))))
            · exact aU (kR rfl) (aU (kR rfl) (aU (kR rfl) (aU (kR rfl) aM)))
        · have e1:decide (q.id > 0)=false:=decide_eq_false hu
          rcases hb with rfl|⟨rfl,hgr1,hpos⟩
          · skip
            refine Wq (Wd 72 91 (by decide) rfl mixed rfl (qM rfl (qM rfl (qY rfl (lan4_any) fok19 rfl (qY rfl (lan6_any) fok20 rfl (qG rfl ty35 rfl (Tl rfl) (qG rfl ty46 rfl (Tl rfl) (qF rfl ty39 rfl (qL rfl ty3 rfl (qG rfl ty26 rfl (Tl rfl) (Od rfl rfl (C0 (fr:=[]) rfl rfl (hse1) fok18 (.cons rfl (.pure rfl) (.cons rfl (.pure rfl) (.cons rfl (.pure rfl) (.cons rfl (.pure rfl) (.cons rfl (.pure rfl) (.cons rfl (.pure rfl) (.cons rfl (.pure rfl) (.cons rfl (.pure rfl) .nil)))))))) rfl) (qM rfl (qX rfl (qX rfl (qX rfl (qB rfl ty49 (qB rfl ty46 (qS rfl ty49 (Sl rfl) rfl (qS rfl ty46 (Sl rfl) rfl (qA rfl (Nl ⟨by kernel_rfl,(Wq (qW 95 97 rfl (qG rfl ty46 rfl (Tl rfl) (qS rfl ty46 (Sl rfl) rfl (Nl (Wq (qW 101 113 rfl (qM rfl (qE rfl (qM rfl (qU rfl rfl rfl (Fa rfl rfl ty49 rfl (by decide)) (qU rfl rfl rfl (Ld rfl rfl rfl rfl ty3 rfl) (qU rfl rfl rfl (Gt0 rfl rfl rfl) (qT rfl rfl rfl (qM rfl (qD rfl ‹_› rfl (qD rfl ‹_› rfl (qD rfl ‹_› rfl (qP rfl ‹_› rfl (Nl (Wo rfl rfl (Wu (qW 124 126 rfl (qZ rfl (iW _ (by omega)) (qM rfl (Nl (WL.renameL [(0,0),(1,1),(2,2),(3,3)] 4 (by decide) ?_ ?_ (ihB ((k + 1),lw,gt) (show 9 - (k + 1) < 9 - k from by omega) (show ((k + 1):Int)≤nn∧0≤gt∧0≤lw∧lw≤3∧gt + lw≤3 + 2 * (i:Int) from by omega)))))))))))))))))))))))))))))⟩)))))))))))))))))))))
            · exact lC (lI rfl) (lC (lI rfl) (lC (lI rfl) (lC (lI rfl) (lC (lR rfl) (lC (lR rfl) (lC (lR rfl) (lC (lR rfl) (lC (lR rfl) (lC (lR rfl) (lC (lR rfl) (lC (lR rfl) (lC (lR rfl) lN))))))))))))
            · exact aU (kR rfl) (aU (kR rfl) (aU (kR rfl) (aU (kR rfl) aM)))
          · skip
            refine Wq (Wd 72 91 (by decide) rfl mixed rfl (qM rfl (qM rfl (qY rfl (lan4_any) fok19 rfl (qY rfl (lan6_any) fok20 rfl (qG rfl ty35 rfl (Tl rfl) (qG rfl ty46 rfl (Tl rfl) (qF rfl ty39 rfl (qL rfl ty3 rfl (qG rfl ty26 rfl (Tl rfl) (Od rfl rfl (C0 (fr:=[]) rfl rfl (hse1) fok18 (.cons rfl (.pure rfl) (.cons rfl (.pure rfl) (.cons rfl (.pure rfl) (.cons rfl (.pure rfl) (.cons rfl (.pure rfl) (.cons rfl (.pure rfl) (.cons rfl (.pure rfl) (.cons rfl (.pure rfl) .nil)))))))) rfl) (qM rfl (qX rfl (qX rfl (qX rfl (qB rfl ty49 (qB rfl ty46 (qS rfl ty49 (Sl rfl) rfl (qS rfl ty46 (Sl rfl) rfl (qA rfl (Nl ⟨by kernel_rfl,(Wq (qW 95 97 rfl (qG rfl ty46 rfl (Tl rfl) (qS rfl ty46 (Sl rfl) rfl (Nl (Wq (qW 101 113 rfl (qM rfl (qE rfl (qM rfl (qU rfl rfl rfl (Fa rfl rfl ty49 rfl (by decide)) (qU rfl rfl rfl (Ld rfl rfl rfl rfl ty3 rfl) (qU rfl rfl rfl (Gt0 rfl rfl rfl) (qT rfl rfl rfl (qM rfl (qD rfl ‹_› rfl (qD rfl ‹_› rfl (qD rfl ‹_› rfl (qP rfl ‹_› rfl (Nl (Wo rfl rfl (Wu (qW 124 126 rfl (qZ rfl (iW _ (by omega)) (qM rfl (Nl (WL.renameL [(0,0),(1,1),(2,2),(3,3)] 4 (by decide) ?_ ?_ (ihB ((k + 1),(lw - 1),gt) (show 9 - (k + 1) < 9 - k from by omega) (show ((k + 1):Int)≤nn∧0≤gt∧0≤(lw - 1)∧(lw - 1)≤3∧gt + (lw - 1)≤3 + 2 * (i:Int) from by omega)))))))))))))))))))))))))))))⟩)))))))))))))))))))))
            · exact lC (lI rfl) (lC (lI rfl) (lC (lI rfl) (lC (lI rfl) (lC (lR rfl) (lC (lR rfl) (lC (lR rfl) (lC (lR rfl) (lC (lR rfl) (lC (lR rfl) (lC (lR rfl) (lC (lR rfl) (lC (lR rfl) lN))))))))))))
            · exact aU (kR rfl) (aU (kR rfl) (aU (kR rfl) (aU (kR rfl) aM)))
    · have g2:decide ((k:Int) < nn)=false:=decide_eq_false hd
      have htick:=tickB_any lw (by omega)
      refine Wq (qW 67 68 rfl (qK rfl (Nl (Wq (Wo rfl ‹_› (Wx (qW 130 133 rfl (qG rfl ty46 rfl (Tl rfl) (qY rfl (htick) fok28 rfl (qS rfl ty46 (Sl rfl) rfl (Nl (qW 137 139 rfl (qZ rfl (iW _ (by omega)) (qM rfl (Nl ?_)))))))))))))))
      refine WL.renameL [(0,0),(1,1),(2,2),(3,3)] 4 (by decide) ?_ ?_ (ihA ((i + 1),(if 3 < lw + 2 then 3 else lw + 2),gt) (show 12 - (i + 1) < 12 - i from by omega) (show ((i + 1):Int)≤tk∧0≤gt∧0≤(if 3 < lw + 2 then 3 else lw + 2)∧(if 3 < lw + 2 then 3 else lw + 2)≤3∧gt + (if 3 < lw + 2 then 3 else lw + 2)≤3 + 2 * ((i + 1):Int)∧(gt≤3 + 2 * (((i + 1):Int) - 1)∨((i + 1)=0∧gt≤3)) from by by_cases h:3 < lw + 2<;>simp only [h,if_true,if_false]<;>omega))
      · exact lC (lI rfl) (lC (lI rfl) (lC (lI rfl) (lC (lI rfl) (lC (lR rfl) (lC (lR rfl) (lC (lR rfl) (lC (lR rfl) (lC (lR rfl) (lC (lR rfl) (lC (lR rfl) lN))))))))))
      · exact aU (kR rfl) (aU (kR rfl) (aU (kR rfl) (aU (kR rfl) aM)))
  · have g1:decide ((i:Int) < tk)=false:=decide_eq_false hc
    have e5:decide (got≤3 + (if 0 < tk - 1 then tk - 1 else 0) * 2)=true:=decide_eq_true (by by_cases h:0 < tk - 1<;>simp only [h,if_true,if_false]<;>omega)
    refine Wq (qW 55 56 rfl (qK rfl (Nl (Wq (Wo rfl ‹_› (Wx (Wq (Wd 143 159 (by decide) rfl mixed rfl (qM rfl (qF rfl ty39 rfl (qL rfl ty3 rfl (qM rfl (qY rfl (hm1) fok17 rfl (Od rfl rfl (LO.sub_in rfl rfl rfl (iW _ (by omega))) (Od rfl rfl (LO.max rfl rfl rfl) (qF rfl ty39 rfl (qL rfl ty3 rfl (Od rfl rfl (LO.mul_in rfl rfl rfl (iW _ (by omega))) (qZ rfl (iW _ (by omega)) (Od rfl rfl (Le0 rfl rfl rfl) (qM rfl (qU rfl ‹_› rfl (C0 (fr:=[]) rfl rfl (hawk) fok14 .nil rfl) (qT rfl ‹_› rfl (qA rfl (Nl ⟨by kernel_rfl,(Wz ⟨.inl rfl,_,mt,Rc (Rt rfl) (Rv),aM,?_⟩)⟩)))))))))))))))))))))))))
    exact ⟨rfl,rfl⟩
end Go.Proofs.YtlcndmciognneaaGreatDoor
