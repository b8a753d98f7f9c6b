/-
  ForwardStable: its law.
-/
import Derived.Test.YtlcndmciognneaaGreatDoorWi
import Derived.Test.YtlcndmciognneaaGreatDoorMab
namespace Go.Proofs.YtlcndmciognneaaGreatDoor
open Go.RowKit
theorem stab_tgt {rs:List Rl} {bs:List Bd} {x:Fr} {D:List Int} (hty:x.ty=2048):tgtF rs bs ⟨x.dst,x.src,x.vl,x.ty,D⟩=tgtF rs bs x:=by
  have k1:((2048:Int) == 2054)=false:=by decide
  have k2:((2048:Int) == 34525)=false:=by decide
  unfold tgtF asksF
  dsimp only
  rw [hty,k1,k2]
  simp only [Bool.false_and,Bool.false_eq_true,if_false]
theorem stab_dlv {rs:List Rl} {bs:List Bd} {p:Int} {x:Fr} {D:List Int} (hty:x.ty=2048):(dlvF rs bs p ⟨x.dst,x.src,x.vl,x.ty,D⟩).1=(dlvF rs bs p x).1∧(dlvF rs bs p ⟨x.dst,x.src,x.vl,x.ty,D⟩).2.1.dst=(dlvF rs bs p x).2.1.dst∧(dlvF rs bs p ⟨x.dst,x.src,x.vl,x.ty,D⟩).2.2=(dlvF rs bs p x).2.2:=by
  unfold dlvF
  rw [stab_tgt hty]
  by_cases h:(tgtF rs bs x).2.2=false∨(tgtF rs bs x).1=p
  · rw [if_pos h,if_pos h];exact ⟨rfl,rfl,rfl⟩
  · rw [if_neg h,if_neg h];exact ⟨rfl,rfl,rfl⟩
theorem stab_chq {r:Rl} {x:Fr} {D:List Int} (hty:x.ty=2048) (hD:D.length≤1500) (hx:x.data.length≤1500):chqV r ⟨x.dst,x.src,x.vl,x.ty,D⟩=chqV r x:=by
  obtain ⟨d,s,v,t,L⟩:=x
  dsimp only at hty hx ⊢
  subst hty
  unfold chqV
  dsimp only
  rw [show decide ((1500:Int) < (D.length:Int))=false from decide_eq_false (by omega),show decide ((1500:Int) < (L.length:Int))=false from decide_eq_false (by omega),show ((2048:Int) == 2054)=false from by decide,show ((2048:Int) == 2048)=true from by decide]
  unfold chqB
  simp only [Bool.false_eq_true,if_false,if_true]
theorem stable (rs:List Rl) (bs:List Bd) (f:Fab) (bk:Bk) (p:Int) (x:Fr) (D:List Int) (hty:x.ty=2048) (hD:D.length≤1500) :
    ((fwdF rs bs f bk p x).2.2=(fwdF rs bs f bk p ⟨x.dst,x.src,x.vl,x.ty,D⟩).2.2∨(1500 < x.data.length∧(fwdF rs bs f bk p x).2.2≠0)) ∧
    ((fwdF rs bs f bk p x).2.2≠0∨((fwdF rs bs f bk p x).1.port=(fwdF rs bs f bk p ⟨x.dst,x.src,x.vl,x.ty,D⟩).1.port∧(fwdF rs bs f bk p x).1.links=(fwdF rs bs f bk p ⟨x.dst,x.src,x.vl,x.ty,D⟩).1.links)):=by
  obtain ⟨e1,e2,e3⟩:=@stab_dlv rs bs p x D hty
  by_cases hx:x.data.length≤1500
  · have e4:=@stab_chq (ruleD rs p) x D hty hD hx
    unfold fwdF fwdW
    rw [e1,e2,e3,e4]
    dsimp only
    generalize dlvF rs bs p ⟨x.dst,x.src,x.vl,x.ty,D⟩=dy at *
    generalize dlvF rs bs p x=dx at *
    obtain ⟨a1,a2,a3⟩:=dx
    obtain ⟨b1,b2,b3⟩:=dy
    dsimp only at e1 e2 e3 ⊢
    subst e1 e3
    unfold fwdB
    split
    · exact ⟨.inl rfl,.inr ⟨rfl,rfl⟩⟩
    · split
      · exact ⟨.inl rfl,.inr ⟨rfl,rfl⟩⟩
      · split
        · exact ⟨.inl rfl,.inr ⟨rfl,rfl⟩⟩
        · split
          · exact ⟨.inl rfl,.inr ⟨rfl,rfl⟩⟩
          · split
            · exact ⟨.inl rfl,.inr ⟨rfl,rfl⟩⟩
            · exact ⟨.inl rfl,.inr ⟨rfl,rfl⟩⟩
  · have e4:chqV (ruleD rs p) x=11:=by
      unfold chqV
      rw [show decide ((1500:Int) < (x.data.length:Int))=true from decide_eq_true (by omega)]
      rfl
    have h1:(fwdF rs bs f bk p x).2.2≠0:=by
      unfold fwdF
      rw [e4]
      unfold fwdB
      split
      · exact (by decide:(1:Int)≠0)
      · exact (by decide:(11:Int)≠0)
    exact ⟨.inr ⟨by omega,h1⟩,.inl h1⟩
theorem intsE_any (l:List Int) (hl:l.length≤100000):AFn Tryz.prog 29 0 [.isl (intsC l) l.length,.isl (intsC l) l.length] mt (.base (.bool true)) mt:=by
  refine AFn.eq Tryz.func29 rfl rfl (Nat.le_of_ble_eq_true rfl) ?_
  have e0:((l.length:Int) != (l.length:Int))=false:=by simp
  refine Wq (qW 0 1 rfl (qA rfl (Nl (Wq (Wq (qW 5 10 rfl (qM rfl ?_)))))))
  first
      | (refine RW.opd rfl rfl (LO.len rfl rfl ty27) ?_)
      | (refine RW.opd rfl rfl (LO.len_isl rfl rfl rfl ty27) ?_)
      | (refine RW.opd rfl rfl (LO.len_nil rfl rfl ty27) ?_)
  refine qM rfl ?_
  first
      | (refine RW.opd rfl rfl (LO.len rfl rfl ty27) ?_)
      | (refine RW.opd rfl rfl (LO.len_isl rfl rfl rfl ty27) ?_)
      | (refine RW.opd rfl rfl (LO.len_nil rfl rfl ty27) ?_)
  refine qN rfl (Nl (Wo rfl ‹_› (Wu (Wq (Wq (qW 19 22 rfl (qM rfl ?_)))))))
  first
      | (refine RW.opd rfl rfl (LO.len rfl rfl ty27) ?_)
      | (refine RW.opd rfl rfl (LO.len_isl rfl rfl rfl ty27) ?_)
      | (refine RW.opd rfl rfl (LO.len_nil rfl rfl ty27) ?_)
  refine qM rfl (Nl (Wb (W.loop_keep (α:=Nat) (fun x=>l.length - x) 0 (fun x=>[(14,.base (.int .i64 (x:Int)))]) (fun x=>mt) (fun x=>x≤l.length) 0 [] (.cons (t:=1) rfl (by exact .inl rfl) (.cons (t:=12) rfl (by exact .inl rfl) (.cons (t:=13) rfl (by exact .inl rfl) .nil))) (show 0≤l.length from Nat.zero_le _) (by decide) ?_ ?_ ?_)))
  · exact lC (lR rfl) lN
  · exact aM
  rintro k hIA ihA
  try (dsimp only at hIA)
  try dsimp only [baseT,List.cons_append,List.nil_append]
  by_cases hc:k < l.length
  · have g1:decide ((k:Int) < (l.length:Int))=true:=decide_eq_true (by omega)
    have hg:(intsC l)[k * 1]?=some (.base (.int .i64 l[k])):=by
      rw [Nat.mul_one];unfold intsC;rw [List.getElem?_map,List.getElem?_eq_getElem hc];rfl
    generalize l[k]=z at *
    have e1:(z != z)=false:=by simp
    refine Wq (qW 26 27 rfl (qK rfl (Nl (Wq (Wt rfl ‹_› (Wu (Wq (Wb (Wq (qW 31 36 rfl (qM rfl ?_)))))))))))
    first
        | (refine RW.opd rfl rfl (LO.indexAddr rfl rfl rfl rfl ty27 ty3 ?_) ?_;(· (first|omega|decide|assumption|fail|(simp;done)|(simp;omega))))
        | (refine RW.opd rfl rfl (LO.indexAddr_isl rfl rfl rfl rfl rfl ty27 ty3 ?_) ?_;(· (first|omega|decide|assumption|fail|(simp;done)|(simp;omega))))
    first
        | (refine RW.opd rfl rfl (LO.load rfl rfl rfl rfl ty3 rfl) ?_)
        | (refine RW.opd rfl rfl (LO.load rfl rfl rfl hg ty3 rfl) ?_)
        | (refine RW.opd rfl rfl (LO.load_imm rfl rfl rfl ty3 rfl) ?_)
        | (refine RW.opd rfl rfl (LO.load_imm rfl rfl hg ty3 rfl) ?_)
    refine qA rfl (qA rfl (Nl (Wq (qW 40 46 rfl (qM rfl (qM rfl ?_))))))
    first
        | (refine RW.opd rfl rfl (LO.indexAddr rfl rfl rfl rfl ty27 ty3 ?_) ?_;(· (first|omega|decide|assumption|fail|(simp;done)|(simp;omega))))
        | (refine RW.opd rfl rfl (LO.indexAddr_isl rfl rfl rfl rfl rfl ty27 ty3 ?_) ?_;(· (first|omega|decide|assumption|fail|(simp;done)|(simp;omega))))
    first
        | (refine RW.opd rfl rfl (LO.load rfl rfl rfl rfl ty3 rfl) ?_)
        | (refine RW.opd rfl rfl (LO.load rfl rfl rfl hg ty3 rfl) ?_)
        | (refine RW.opd rfl rfl (LO.load_imm rfl rfl rfl ty3 rfl) ?_)
        | (refine RW.opd rfl rfl (LO.load_imm rfl rfl hg ty3 rfl) ?_)
    refine qM rfl (qN rfl (Nl (Wo rfl ‹_› (Wu (qW 55 57 rfl ?_)))))
    first
        | (refine RW.opd rfl rfl (LO.add_in rfl rfl rfl ?_) ?_;(· (first|exact IntWalk.i64_in _ (by omega)|assumption)))
        | (refine RW.opd rfl rfl (LO.add rfl rfl rfl) ?_)
    refine qM rfl (Nl (WL.renameL [] 0 (by decide) ?_ ?_ (ihA (k + 1) (show l.length - (k + 1) < l.length - k from by omega) (show (k + 1)≤l.length from by omega))))
    · exact lC (lR rfl) (lC (lR rfl) (lC (lR rfl) (lC (lR rfl) lN)))
    · exact aM
  · have g1:decide ((k:Int) < (l.length:Int))=false:=decide_eq_false (by omega)
    refine Wq (qW 26 27 rfl (qK rfl (Nl (Wq (Wo rfl ‹_› (Wx (Wq (qW 61 62 rfl (qA rfl (Nl (Wz ⟨.inl rfl,_,mt,Rc (Rt rfl) (Rv),aM,?_⟩)))))))))))
    exact ⟨rfl,rfl⟩
set_option maxHeartbeats 8000000 in
theorem stable14_law (l more:List Int) (hl:l.length≤9223372036854775807) (hB:IsB more):AFn Tryz.prog 6 0 [.isl (l.map fun z=>.base (.int .i64 z)) l.length,.isl (bytesC more) more.length] mt (.base (.bool true)) mt:=by
  refine AFn.eq Tryz.func6 rfl rfl (Nat.le_of_ble_eq_true rfl) ?_
  have hawk:=awake14_any
  have hsh:=shortS_any more
  by_cases hrl:more.length≤600
  case' neg =>
    have e1:decide ((more.length:Int)≤600)=false:=decide_eq_false (by omega)
    rw [e1] at hsh
    refine Wq (qW 0 1 rfl (qA rfl (Nl (Wq (Wq (qW 5 8 rfl (qM rfl (qY rfl (hsh) fok13 rfl (qO rfl (Nl (Wt rfl rfl (Wq (qW 12 14 rfl (qY rfl (hawk) fok14 rfl (qA rfl (Nl (Wz ⟨.inl rfl,_,mt,Rc (Rt rfl) (Rv),aM,?_⟩)))))))))))))))))
    exact ⟨rfl,rfl⟩
  case' pos =>
    have e1:decide ((more.length:Int)≤600)=true:=decide_eq_true (by omega)
    rw [e1] at hsh
    have hnew:=new_any l
    obtain ⟨_,_,hset,ld,d,g,bs,j,f,fb,a1,hj,⟨hfine,hperm,hmo,hfy,hfok⟩,rfl,rfl⟩:=setting14_any l 0 hl
    have htab:=hfine.tables g 2 3 hperm hmo
    have hlen:=hfine.len
    have hrok:=hfine.rok g 2 3
    have hrn:((allP d).map (ruleOf g 2 3)).length≤1000:=by rw [List.length_map];omega
    have hfx:=hfy.x
    have hfs:FabS fb:=FabOK.s hfok.sw7 hfok.nlinks hfok.dead
    have hbk:BkOk ⟨3,2,3⟩:=⟨by decide,by decide,by decide⟩
    have hB3:=newB_any 2 3
    have hxx:FrX ⟨f.dst,f.src,0,2048,f.data⟩:=⟨⟨hfx.ok.d6,hfx.ok.s6,hfx.ok.bB,hfx.ok.bl⟩,hfx.dB,hfx.sB⟩
    have hDB:IsB (more++[1]):=hB.append (fun x hx=>by rw [List.mem_singleton] at hx;subst hx;decide)
    have hyy:FrX ⟨f.dst,f.src,0,2048,more++[1]⟩:=⟨⟨hfx.ok.d6,hfx.ok.s6,hDB,by rw [List.length_append];simp only [List.length_singleton];omega⟩,hfx.dB,hfx.sB⟩
    have hse:=fun x hx=>sendE_any ((allP d).map (ruleOf g 2 3)) bs fb ⟨3,2,3⟩ (allP d)[j].id x hrn hrok htab hfs hfok.ends hbk hx (hfine.full hperm _ x)
    have hok:=fun x hx=>fwdF_ok (bk:=⟨3,2,3⟩) (p:=(allP d)[j].id) (x:=x) htab hfs hx
    have hsx:=hse _ hxx
    have hsy:=hse _ hyy
    have hkx:=hok _ hxx
    have hky:=hok _ hyy
    have hst:=stable ((allP d).map (ruleOf g 2 3)) bs fb ⟨3,2,3⟩ (allP d)[j].id ⟨f.dst,f.src,0,2048,f.data⟩ (more++[1]) rfl (by rw [List.length_append];simp only [List.length_singleton];omega)
    clear hse hok
    generalize (allP d)[j]=P at *
    generalize (allP d).map (ruleOf g 2 3)=rs at *
    unfold fwdV at hsx hsy
    dsimp only at hst
    generalize fwdF rs bs fb ⟨3,2,3⟩ P.id ⟨f.dst,f.src,0,2048,f.data⟩=sx at *
    generalize fwdF rs bs fb ⟨3,2,3⟩ P.id ⟨f.dst,f.src,0,2048,more++[1]⟩=sy at *
    clear hxx hyy hfy hmo htab hrok hrn hfok hfs hperm hlen hbk hfine
    obtain ⟨fsw,flk,fdn,fdd⟩:=fb
    obtain ⟨fd,fs,fv,ft,fx⟩:=f
    have h3:=hfx.ok.d6
    have h4:=hfx.ok.s6
    clear hfx
    dsimp only at h3 h4 hsx hsy hst
    obtain ⟨d0,d1,d2,d3,d4,d5,rfl⟩:=six_of h3
    obtain ⟨s0,s1,s2,s3,s4,s5,rfl⟩:=six_of h4
    obtain ⟨⟨xp,xlk,⟨yd,ys,yv,yt,yx⟩⟩,⟨xl,xr,xb⟩,v⟩:=sx
    obtain ⟨⟨zp,zlk,⟨zd,zs,zv,zt,zx⟩⟩,⟨zl,zr,zb⟩,w⟩:=sy
    obtain ⟨hk1,hk2⟩:=hkx
    obtain ⟨hk3,hk4⟩:=hky
    have h5:=hk1.d6
    have h6:=hk1.s6
    have h7:=hk3.d6
    have h8:=hk3.s6
    dsimp only at h5 h6 h7 h8 hsx hsy hst hk2 hk4
    clear hk1 hk3
    obtain ⟨a0,a1,a2,a3,a4,a5,rfl⟩:=six_of h5
    obtain ⟨b0,b1,b2,b3,b4,b5,rfl⟩:=six_of h6
    obtain ⟨c0,c1,c2,c3,c4,c5,rfl⟩:=six_of h7
    obtain ⟨g0,g1,g2,g3,g4,g5,rfl⟩:=six_of h8
    have hin:=intsE_any xlk (by omega)
    have hmz:(bytesC more).length=more.length * 1:=by rw [bytesC_len];omega
    have hby:bytesC more++[AV.base (.int .u8 1)]=bytesC (more++[1]):=by unfold bytesC;rw [List.map_append];rfl
    have hlm:(more++[1]).length=more.length + 1:=by rw [List.length_append];rfl
    unfold ruleOf at hset
    refine Wq (qW 0 1 rfl (qA rfl (Nl (Wq (Wq (qW 5 8 rfl (qM rfl (qY rfl (hsh) fok13 rfl (qO rfl (Nl (Wo rfl rfl (Wu (Wq (qW 18 35 rfl (qM rfl (Od rfl rfl (CN (fr:=[]) rfl rfl (hnew) fok16 (.cons rfl (.pure rfl) .nil) rfl (by decide)) (Od rfl rfl (C1 (fr:=[]) rfl rfl (hset) fok15 (.own rfl rfl .nil) rfl rfl rfl (Cn _ _) (by decide) rfl) (qM rfl (qX rfl (qX rfl (qX rfl (qX rfl (qX rfl (qB rfl ty35 (qB rfl ty39 (qB rfl ty26 (qA rfl (qA rfl (qS rfl ty35 (Sl rfl) rfl (qS rfl ty39 (Sl rfl) rfl (qS rfl ty26 (Sl rfl) rfl (Nl (Wq (qW 39 43 rfl ?_))))))))))))))))))))))))))))))))))
    first
        | (refine RW.opd rfl rfl (LO.fieldAddr rfl rfl ty26 rfl (by decide)) ?_)
        | (refine RW.opd rfl rfl (LO.fieldAddr_imm rfl rfl ty26 rfl (by decide)) ?_)
    refine qS rfl ty3 (Sl rfl) rfl ?_
    first
        | (refine RW.opd rfl rfl (LO.fieldAddr rfl rfl ty26 rfl (by decide)) ?_)
        | (refine RW.opd rfl rfl (LO.fieldAddr_imm rfl rfl ty26 rfl (by decide)) ?_)
    refine qS rfl ty3 (Sl rfl) rfl (Nl (Wq (qW 47 50 rfl ?_)))
    first
        | (refine RW.opd rfl rfl (LO.load_agg rfl rfl rfl ty26 rfl (Tk.lit rfl)) ?_)
        | (refine RW.opd rfl rfl (LO.load_imm_agg rfl rfl ty26 rfl (Tk.lit rfl)) ?_)
    refine qB rfl ty26 (qS rfl ty26 (Sl rfl) rfl (Nl (Wq (qW 54 60 rfl (qM rfl (Od rfl rfl (Lan rfl rfl (Ssi rfl rfl hmz) ty24 ty24 ty5 (by decide) (by omega) (by omega) (by decide)) (Od rfl rfl (LO.buildSlice rfl ty24 ty5 (by decide) (by decide) (.cons rfl rfl rfl rfl (Sl rfl) .nil)) (Od rfl rfl (Lap rfl rfl (Sso rfl rfl (Tl rfl)) rfl (bytes_tk rfl) ty24 ty24 ty5 (by decide) (by omega) (by omega) (by decide)) ?_))))))))
    first
        | (refine RW.opd rfl rfl (LO.fieldAddr rfl rfl ty26 rfl (by decide)) ?_)
        | (refine RW.opd rfl rfl (LO.fieldAddr_imm rfl rfl ty26 rfl (by decide)) ?_)
    refine qS rfl ty24 (Sl rfl) rfl (Nl ?_)
    rw [hby,← hlm]
    refine Wv (q:=48) (j:=14) (r:=57) rfl rfl (by decide) rfl (bytes_tk rfl) (bytesC_pure _) (Sl rfl) (Wq (qW 64 67 rfl (qY rfl (hB3) fok27 rfl (qB rfl ty46 (qS rfl ty46 (Sl rfl) rfl (Nl (Wq (Wd 71 90 (by decide) rfl mixed rfl (qM rfl (qM rfl (qY rfl (lan4_any) fok19 rfl (qY rfl (lan6_any) fok20 rfl ?_))))))))))))
    first
        | (refine RW.opd rfl rfl (LO.load_agg rfl rfl rfl ty35 rfl (Tk.lit rfl)) ?_)
        | (refine RW.opd rfl rfl (LO.load_imm_agg rfl rfl ty35 rfl (Tk.lit rfl)) ?_)
    first
        | (refine RW.opd rfl rfl (LO.load_agg rfl rfl rfl ty46 rfl (Tk.lit rfl)) ?_)
        | (refine RW.opd rfl rfl (LO.load_imm_agg rfl rfl ty46 rfl (Tk.lit rfl)) ?_)
    first
        | (refine RW.opd rfl rfl (LO.fieldAddr rfl rfl ty39 rfl (by decide)) ?_)
        | (refine RW.opd rfl rfl (LO.fieldAddr_imm rfl rfl ty39 rfl (by decide)) ?_)
    first
        | (refine RW.opd rfl rfl (LO.load rfl rfl rfl rfl ty3 rfl) ?_)
        | (refine RW.opd rfl rfl (LO.load_imm rfl rfl rfl ty3 rfl) ?_)
    first
        | (refine RW.opd rfl rfl (LO.load_agg rfl rfl rfl ty26 rfl (Tk.lit rfl)) ?_)
        | (refine RW.opd rfl rfl (LO.load_imm_agg rfl rfl ty26 rfl (Tk.lit rfl)) ?_)
    refine Od rfl rfl (C0 (fr:=[]) rfl rfl (hsx) fok18 (.cons rfl (.pure rfl) (.cons rfl (.pure rfl) (.cons rfl (.pure rfl) (.cons rfl (.pure rfl) (.cons rfl (.pure rfl) (.cons rfl (.pure rfl) (.cons rfl (.pure rfl) (.cons rfl (.pure rfl) .nil)))))))) rfl) (qM rfl (qX rfl (qX rfl (qX rfl (qB rfl ty49 (qB rfl ty46 (qS rfl ty49 (Sl rfl) rfl (qS rfl ty46 (Sl rfl) rfl (qA rfl (Nl ⟨by kernel_rfl,(Wq (Wd 94 113 (by decide) rfl mixed rfl (qM rfl (qM rfl (qY rfl (lan4_any) fok19 rfl (qY rfl (lan6_any) fok20 rfl ?_))))))⟩))))))))))
    first
        | (refine RW.opd rfl rfl (LO.load_agg rfl rfl rfl ty35 rfl (Tk.lit rfl)) ?_)
        | (refine RW.opd rfl rfl (LO.load_imm_agg rfl rfl ty35 rfl (Tk.lit rfl)) ?_)
    first
        | (refine RW.opd rfl rfl (LO.load_agg rfl rfl rfl ty46 rfl (Tk.lit rfl)) ?_)
        | (refine RW.opd rfl rfl (LO.load_imm_agg rfl rfl ty46 rfl (Tk.lit rfl)) ?_)
    first
        | (refine RW.opd rfl rfl (LO.fieldAddr rfl rfl ty39 rfl (by decide)) ?_)
        | (refine RW.opd rfl rfl (LO.fieldAddr_imm rfl rfl ty39 rfl (by decide)) ?_)
    first
        | (refine RW.opd rfl rfl (LO.load rfl rfl rfl rfl ty3 rfl) ?_)
        | (refine RW.opd rfl rfl (LO.load_imm rfl rfl rfl ty3 rfl) ?_)
    first
        | (refine RW.opd rfl rfl (LO.load_agg rfl rfl rfl ty26 rfl (Tk.lit rfl)) ?_)
        | (refine RW.opd rfl rfl (LO.load_imm_agg rfl rfl ty26 rfl (Tk.lit rfl)) ?_)
    refine Od rfl rfl (C0 (fr:=[]) rfl rfl (hsy) fok18 (.cons rfl (.pure rfl) (.cons rfl (.pure rfl) (.cons rfl (.pure rfl) (.cons rfl (.pure rfl) (.cons rfl (.pure rfl) (.cons rfl (.pure rfl) (.cons rfl (.pure rfl) (.cons rfl (.pure rfl) .nil)))))))) rfl) (qM rfl (qX rfl (qX rfl (qX rfl (qB rfl ty49 (qB rfl ty46 (qS rfl ty49 (Sl rfl) rfl (qS rfl ty46 (Sl rfl) rfl (qA rfl (Nl ⟨by kernel_rfl,?_⟩))))))))))
    obtain ⟨hs1,hs2⟩:=hst
    by_cases hv:v=0
    · subst hv
      rcases hs1 with rfl|⟨_,hs1⟩
      case' inr=>exact absurd rfl hs1
      rcases hs2 with hs2|⟨rfl,rfl⟩
      case' inl=>exact absurd rfl hs2
      have k0:((0:Int) == 0)=true:=rfl
      have k1:((0:Int) != 0)=false:=rfl
      have k2:(xp == xp)=true:=by simp
      refine Wq (qW 117 152 rfl (qM rfl (qM rfl (qE rfl (qM rfl ?_)))))
      first
          | (refine RW.sd rfl rfl rfl ?_ rfl ?_;(· (first|rfl|assumption)))
          | (refine RW.gd rfl rfl rfl ?_ rfl (LO.fieldAddr rfl rfl ty26 rfl (by decide)) ?_;(· (first|rfl|assumption)))
          | (refine RW.gd rfl rfl rfl ?_ rfl (LO.fieldAddr_imm rfl rfl ty26 rfl (by decide)) ?_;(· (first|rfl|assumption)))
      first
          | (refine RW.sd rfl rfl rfl ?_ rfl ?_;(· (first|rfl|assumption)))
          | (refine RW.gd rfl rfl rfl ?_ rfl (LO.load rfl rfl rfl rfl ty24 rfl) ?_;(· (first|rfl|assumption)))
          | (refine RW.gd rfl rfl rfl ?_ rfl (LO.load_imm rfl rfl rfl ty24 rfl) ?_;(· (first|rfl|assumption)))
      first
          | (refine RW.sd rfl rfl rfl ?_ rfl ?_;(· (first|rfl|assumption)))
          | (refine RW.gd rfl rfl rfl ?_ rfl (LO.len rfl rfl ty24) ?_;(· (first|rfl|assumption)))
          | (refine RW.gd rfl rfl rfl ?_ rfl (LO.len_isl rfl rfl rfl ty24) ?_;(· (first|rfl|assumption)))
          | (refine RW.gd rfl rfl rfl ?_ rfl (LO.len_nil rfl rfl ty24) ?_;(· (first|rfl|assumption)))
      first
          | (refine RW.sd rfl rfl rfl ?_ rfl ?_;(· (first|rfl|assumption)))
          | (refine RW.gd rfl rfl rfl ?_ rfl (LO.gtr rfl rfl rfl) ?_;(· (first|rfl|assumption)))
      first
          | (refine RW.opd rfl rfl (LO.pick_t rfl rfl ?_ rfl) ?_;(· (first|rfl|assumption)))
          | (refine RW.opd rfl rfl (LO.pick_f rfl rfl ?_ rfl) ?_;(· (first|rfl|assumption)))
      refine qM rfl ?_
      first
          | (refine RW.sd rfl rfl rfl ?_ rfl ?_;(· (first|rfl|assumption)))
          | (refine RW.gd rfl rfl rfl ?_ rfl (LO.move rfl rfl) ?_;(· (first|rfl|assumption)))
      first
          | (refine RW.sd rfl rfl rfl ?_ rfl ?_;(· (first|rfl|assumption)))
          | (refine RW.gd rfl rfl rfl ?_ rfl (LO.neq rfl rfl rfl) ?_;(· (first|rfl|assumption)))
      first
          | (refine RW.sd rfl rfl rfl ?_ rfl ?_;(· (first|rfl|assumption)))
          | (refine RW.gd rfl rfl rfl ?_ rfl (LO.move rfl rfl) ?_;(· (first|rfl|assumption)))
      first
          | (refine RW.sd rfl rfl rfl ?_ rfl ?_;(· (first|rfl|assumption)))
          | (refine RW.gd rfl rfl rfl ?_ rfl (LO.move rfl rfl) ?_;(· (first|rfl|assumption)))
          | (refine RW.ud rfl rfl rfl rfl ?_)
      first
          | (refine RW.sd rfl rfl rfl ?_ rfl ?_;(· (first|rfl|assumption)))
          | (refine RW.gd rfl rfl rfl ?_ rfl (LO.neq rfl rfl rfl) ?_;(· (first|rfl|assumption)))
          | (refine RW.ud rfl rfl rfl rfl ?_)
      first
          | (refine RW.sd rfl rfl rfl ?_ rfl ?_;(· (first|rfl|assumption)))
          | (refine RW.gd rfl rfl rfl ?_ rfl (LO.pick_t rfl rfl ?_ rfl) ?_;(· (first|rfl|assumption));(· (first|rfl|assumption)))
          | (refine RW.gd rfl rfl rfl ?_ rfl (LO.pick_f rfl rfl ?_ rfl) ?_;(· (first|rfl|assumption));(· (first|rfl|assumption)))
      first
          | (refine RW.sd rfl rfl rfl ?_ rfl ?_;(· (first|rfl|assumption)))
          | (refine RW.gd rfl rfl rfl ?_ rfl (LO.move rfl rfl) ?_;(· (first|rfl|assumption)))
      first
          | (refine RW.sd rfl rfl rfl ?_ rfl ?_;(· (first|rfl|assumption)))
          | (refine RW.gd rfl rfl rfl ?_ rfl (LO.fieldAddr rfl rfl ty49 rfl (by decide)) ?_;(· (first|rfl|assumption)))
          | (refine RW.gd rfl rfl rfl ?_ rfl (LO.fieldAddr_imm rfl rfl ty49 rfl (by decide)) ?_;(· (first|rfl|assumption)))
          | (refine RW.ud rfl rfl rfl rfl ?_)
      first
          | (refine RW.sd rfl rfl rfl ?_ rfl ?_;(· (first|rfl|assumption)))
          | (refine RW.gd rfl rfl rfl ?_ rfl (LO.load rfl rfl rfl rfl ty3 rfl) ?_;(· (first|rfl|assumption)))
          | (refine RW.gd rfl rfl rfl ?_ rfl (LO.load_imm rfl rfl rfl ty3 rfl) ?_;(· (first|rfl|assumption)))
          | (refine RW.ud rfl rfl rfl rfl ?_)
      first
          | (refine RW.sd rfl rfl rfl ?_ rfl ?_;(· (first|rfl|assumption)))
          | (refine RW.gd rfl rfl rfl ?_ rfl (LO.fieldAddr rfl rfl ty49 rfl (by decide)) ?_;(· (first|rfl|assumption)))
          | (refine RW.gd rfl rfl rfl ?_ rfl (LO.fieldAddr_imm rfl rfl ty49 rfl (by decide)) ?_;(· (first|rfl|assumption)))
          | (refine RW.ud rfl rfl rfl rfl ?_)
      first
          | (refine RW.sd rfl rfl rfl ?_ rfl ?_;(· (first|rfl|assumption)))
          | (refine RW.gd rfl rfl rfl ?_ rfl (LO.load rfl rfl rfl rfl ty3 rfl) ?_;(· (first|rfl|assumption)))
          | (refine RW.gd rfl rfl rfl ?_ rfl (LO.load_imm rfl rfl rfl ty3 rfl) ?_;(· (first|rfl|assumption)))
          | (refine RW.ud rfl rfl rfl rfl ?_)
      first
          | (refine RW.sd rfl rfl rfl ?_ rfl ?_;(· (first|rfl|assumption)))
          | (refine RW.gd rfl rfl rfl ?_ rfl (LO.eql rfl rfl rfl) ?_;(· (first|rfl|assumption)))
          | (refine RW.ud rfl rfl rfl rfl ?_)
      first
          | (refine RW.sd rfl rfl rfl ?_ rfl ?_;(· (first|rfl|assumption)))
          | (refine RW.gd rfl rfl rfl ?_ rfl (LO.move rfl rfl) ?_;(· (first|rfl|assumption)))
          | (refine RW.ud rfl rfl rfl rfl ?_)
      first
          | (refine RW.sd rfl rfl rfl ?_ rfl ?_;(· (first|rfl|assumption)))
          | (refine RW.gd rfl rfl rfl ?_ rfl (LO.fieldAddr rfl rfl ty49 rfl (by decide)) ?_;(· (first|rfl|assumption)))
          | (refine RW.gd rfl rfl rfl ?_ rfl (LO.fieldAddr_imm rfl rfl ty49 rfl (by decide)) ?_;(· (first|rfl|assumption)))
          | (refine RW.ud rfl rfl rfl rfl ?_)
      first
          | (refine RW.sd rfl rfl rfl ?_ rfl ?_;(· (first|rfl|assumption)))
          | (refine RW.gd rfl rfl rfl ?_ rfl (LO.load rfl rfl rfl rfl ty27 rfl) ?_;(· (first|rfl|assumption)))
          | (refine RW.gd rfl rfl rfl ?_ rfl (LO.load_imm rfl rfl rfl ty27 rfl) ?_;(· (first|rfl|assumption)))
          | (refine RW.ud rfl rfl rfl rfl ?_)
      first
          | (refine RW.sd rfl rfl rfl ?_ rfl ?_;(· (first|rfl|assumption)))
          | (refine RW.gd rfl rfl rfl ?_ rfl (LO.fieldAddr rfl rfl ty49 rfl (by decide)) ?_;(· (first|rfl|assumption)))
          | (refine RW.gd rfl rfl rfl ?_ rfl (LO.fieldAddr_imm rfl rfl ty49 rfl (by decide)) ?_;(· (first|rfl|assumption)))
          | (refine RW.ud rfl rfl rfl rfl ?_)
      first
          | (refine RW.sd rfl rfl rfl ?_ rfl ?_;(· (first|rfl|assumption)))
          | (refine RW.gd rfl rfl rfl ?_ rfl (LO.load rfl rfl rfl rfl ty27 rfl) ?_;(· (first|rfl|assumption)))
          | (refine RW.gd rfl rfl rfl ?_ rfl (LO.load_imm rfl rfl rfl ty27 rfl) ?_;(· (first|rfl|assumption)))
          | (refine RW.ud rfl rfl rfl rfl ?_)
      first
          | (refine RW.sd rfl rfl rfl ?_ rfl ?_;(· (first|rfl|assumption)))
          | (refine RW.gd rfl rfl rfl ?_ rfl (LO.call0 (fr:=[]) rfl rfl (hin) fok29 (.cons rfl (.pure rfl) (.cons rfl (.pure rfl) .nil)) rfl) ?_;(· (first|rfl|assumption)))
          | (refine RW.ud rfl rfl rfl rfl ?_)
      first
          | (refine RW.sd rfl rfl rfl ?_ rfl ?_;(· (first|rfl|assumption)))
          | (refine RW.gd rfl rfl rfl ?_ rfl (LO.pick_t rfl rfl ?_ rfl) ?_;(· (first|rfl|assumption));(· (first|rfl|assumption)))
          | (refine RW.gd rfl rfl rfl ?_ rfl (LO.pick_f rfl rfl ?_ rfl) ?_;(· (first|rfl|assumption));(· (first|rfl|assumption)))
          | (refine RW.ud rfl rfl rfl rfl ?_)
      first
          | (refine RW.sd rfl rfl rfl ?_ rfl ?_;(· (first|rfl|assumption)))
          | (refine RW.gd rfl rfl rfl ?_ rfl (LO.pick_t rfl rfl ?_ rfl) ?_;(· (first|rfl|assumption));(· (first|rfl|assumption)))
          | (refine RW.gd rfl rfl rfl ?_ rfl (LO.pick_f rfl rfl ?_ rfl) ?_;(· (first|rfl|assumption));(· (first|rfl|assumption)))
      first
          | (refine RW.opd rfl rfl (LO.pick_t rfl rfl ?_ rfl) ?_;(· (first|rfl|assumption)))
          | (refine RW.opd rfl rfl (LO.pick_f rfl rfl ?_ rfl) ?_;(· (first|rfl|assumption)))
      refine qM rfl ?_
      first
          | (refine RW.sd rfl rfl rfl ?_ rfl ?_;(· (first|rfl|assumption)))
          | (refine RW.gd rfl rfl rfl ?_ rfl (LO.call0 (fr:=[]) rfl rfl (hawk) fok14 .nil rfl) ?_;(· (first|rfl|assumption)))
      first
          | (refine RW.opd rfl rfl (LO.pick_t rfl rfl ?_ rfl) ?_;(· (first|rfl|assumption)))
          | (refine RW.opd rfl rfl (LO.pick_f rfl rfl ?_ rfl) ?_;(· (first|rfl|assumption)))
      refine qA rfl (Nl (Wz ⟨.inl rfl,_,mt,Rc (Rt rfl) (Rv),aM,?_⟩))
      exact ⟨rfl,rfl⟩
    · have k1:(v != 0)=true:=by simpa using hv
      by_cases hvw:v=w
      · subst hvw
        have k0:(v == v)=true:=by simp
        refine Wq (qW 117 152 rfl (qM rfl (qM rfl (qE rfl (qM rfl ?_)))))
        first
            | (refine RW.sd rfl rfl rfl ?_ rfl ?_;(· (first|rfl|assumption)))
            | (refine RW.gd rfl rfl rfl ?_ rfl (LO.fieldAddr rfl rfl ty26 rfl (by decide)) ?_;(· (first|rfl|assumption)))
            | (refine RW.gd rfl rfl rfl ?_ rfl (LO.fieldAddr_imm rfl rfl ty26 rfl (by decide)) ?_;(· (first|rfl|assumption)))
        first
            | (refine RW.sd rfl rfl rfl ?_ rfl ?_;(· (first|rfl|assumption)))
            | (refine RW.gd rfl rfl rfl ?_ rfl (LO.load rfl rfl rfl rfl ty24 rfl) ?_;(· (first|rfl|assumption)))
            | (refine RW.gd rfl rfl rfl ?_ rfl (LO.load_imm rfl rfl rfl ty24 rfl) ?_;(· (first|rfl|assumption)))
        first
            | (refine RW.sd rfl rfl rfl ?_ rfl ?_;(· (first|rfl|assumption)))
            | (refine RW.gd rfl rfl rfl ?_ rfl (LO.len rfl rfl ty24) ?_;(· (first|rfl|assumption)))
            | (refine RW.gd rfl rfl rfl ?_ rfl (LO.len_isl rfl rfl rfl ty24) ?_;(· (first|rfl|assumption)))
            | (refine RW.gd rfl rfl rfl ?_ rfl (LO.len_nil rfl rfl ty24) ?_;(· (first|rfl|assumption)))
        first
            | (refine RW.sd rfl rfl rfl ?_ rfl ?_;(· (first|rfl|assumption)))
            | (refine RW.gd rfl rfl rfl ?_ rfl (LO.gtr rfl rfl rfl) ?_;(· (first|rfl|assumption)))
        first
            | (refine RW.opd rfl rfl (LO.pick_t rfl rfl ?_ rfl) ?_;(· (first|rfl|assumption)))
            | (refine RW.opd rfl rfl (LO.pick_f rfl rfl ?_ rfl) ?_;(· (first|rfl|assumption)))
        refine qM rfl ?_
        first
            | (refine RW.sd rfl rfl rfl ?_ rfl ?_;(· (first|rfl|assumption)))
            | (refine RW.gd rfl rfl rfl ?_ rfl (LO.move rfl rfl) ?_;(· (first|rfl|assumption)))
        first
            | (refine RW.sd rfl rfl rfl ?_ rfl ?_;(· (first|rfl|assumption)))
            | (refine RW.gd rfl rfl rfl ?_ rfl (LO.neq rfl rfl rfl) ?_;(· (first|rfl|assumption)))
        first
            | (refine RW.sd rfl rfl rfl ?_ rfl ?_;(· (first|rfl|assumption)))
            | (refine RW.gd rfl rfl rfl ?_ rfl (LO.move rfl rfl) ?_;(· (first|rfl|assumption)))
        first
            | (refine RW.sd rfl rfl rfl ?_ rfl ?_;(· (first|rfl|assumption)))
            | (refine RW.gd rfl rfl rfl ?_ rfl (LO.move rfl rfl) ?_;(· (first|rfl|assumption)))
            | (refine RW.ud rfl rfl rfl rfl ?_)
        first
            | (refine RW.sd rfl rfl rfl ?_ rfl ?_;(· (first|rfl|assumption)))
            | (refine RW.gd rfl rfl rfl ?_ rfl (LO.neq rfl rfl rfl) ?_;(· (first|rfl|assumption)))
            | (refine RW.ud rfl rfl rfl rfl ?_)
        first
            | (refine RW.sd rfl rfl rfl ?_ rfl ?_;(· (first|rfl|assumption)))
            | (refine RW.gd rfl rfl rfl ?_ rfl (LO.pick_t rfl rfl ?_ rfl) ?_;(· (first|rfl|assumption));(· (first|rfl|assumption)))
            | (refine RW.gd rfl rfl rfl ?_ rfl (LO.pick_f rfl rfl ?_ rfl) ?_;(· (first|rfl|assumption));(· (first|rfl|assumption)))
        first
            | (refine RW.sd rfl rfl rfl ?_ rfl ?_;(· (first|rfl|assumption)))
            | (refine RW.gd rfl rfl rfl ?_ rfl (LO.move rfl rfl) ?_;(· (first|rfl|assumption)))
        first
            | (refine RW.sd rfl rfl rfl ?_ rfl ?_;(· (first|rfl|assumption)))
            | (refine RW.gd rfl rfl rfl ?_ rfl (LO.fieldAddr rfl rfl ty49 rfl (by decide)) ?_;(· (first|rfl|assumption)))
            | (refine RW.gd rfl rfl rfl ?_ rfl (LO.fieldAddr_imm rfl rfl ty49 rfl (by decide)) ?_;(· (first|rfl|assumption)))
            | (refine RW.ud rfl rfl rfl rfl ?_)
        first
            | (refine RW.sd rfl rfl rfl ?_ rfl ?_;(· (first|rfl|assumption)))
            | (refine RW.gd rfl rfl rfl ?_ rfl (LO.load rfl rfl rfl rfl ty3 rfl) ?_;(· (first|rfl|assumption)))
            | (refine RW.gd rfl rfl rfl ?_ rfl (LO.load_imm rfl rfl rfl ty3 rfl) ?_;(· (first|rfl|assumption)))
            | (refine RW.ud rfl rfl rfl rfl ?_)
        first
            | (refine RW.sd rfl rfl rfl ?_ rfl ?_;(· (first|rfl|assumption)))
            | (refine RW.gd rfl rfl rfl ?_ rfl (LO.fieldAddr rfl rfl ty49 rfl (by decide)) ?_;(· (first|rfl|assumption)))
            | (refine RW.gd rfl rfl rfl ?_ rfl (LO.fieldAddr_imm rfl rfl ty49 rfl (by decide)) ?_;(· (first|rfl|assumption)))
            | (refine RW.ud rfl rfl rfl rfl ?_)
        first
            | (refine RW.sd rfl rfl rfl ?_ rfl ?_;(· (first|rfl|assumption)))
            | (refine RW.gd rfl rfl rfl ?_ rfl (LO.load rfl rfl rfl rfl ty3 rfl) ?_;(· (first|rfl|assumption)))
            | (refine RW.gd rfl rfl rfl ?_ rfl (LO.load_imm rfl rfl rfl ty3 rfl) ?_;(· (first|rfl|assumption)))
            | (refine RW.ud rfl rfl rfl rfl ?_)
        first
            | (refine RW.sd rfl rfl rfl ?_ rfl ?_;(· (first|rfl|assumption)))
            | (refine RW.gd rfl rfl rfl ?_ rfl (LO.eql rfl rfl rfl) ?_;(· (first|rfl|assumption)))
            | (refine RW.ud rfl rfl rfl rfl ?_)
        first
            | (refine RW.sd rfl rfl rfl ?_ rfl ?_;(· (first|rfl|assumption)))
            | (refine RW.gd rfl rfl rfl ?_ rfl (LO.move rfl rfl) ?_;(· (first|rfl|assumption)))
            | (refine RW.ud rfl rfl rfl rfl ?_)
        first
            | (refine RW.sd rfl rfl rfl ?_ rfl ?_;(· (first|rfl|assumption)))
            | (refine RW.gd rfl rfl rfl ?_ rfl (LO.fieldAddr rfl rfl ty49 rfl (by decide)) ?_;(· (first|rfl|assumption)))
            | (refine RW.gd rfl rfl rfl ?_ rfl (LO.fieldAddr_imm rfl rfl ty49 rfl (by decide)) ?_;(· (first|rfl|assumption)))
            | (refine RW.ud rfl rfl rfl rfl ?_)
        first
            | (refine RW.sd rfl rfl rfl ?_ rfl ?_;(· (first|rfl|assumption)))
            | (refine RW.gd rfl rfl rfl ?_ rfl (LO.load rfl rfl rfl rfl ty27 rfl) ?_;(· (first|rfl|assumption)))
            | (refine RW.gd rfl rfl rfl ?_ rfl (LO.load_imm rfl rfl rfl ty27 rfl) ?_;(· (first|rfl|assumption)))
            | (refine RW.ud rfl rfl rfl rfl ?_)
        first
            | (refine RW.sd rfl rfl rfl ?_ rfl ?_;(· (first|rfl|assumption)))
            | (refine RW.gd rfl rfl rfl ?_ rfl (LO.fieldAddr rfl rfl ty49 rfl (by decide)) ?_;(· (first|rfl|assumption)))
            | (refine RW.gd rfl rfl rfl ?_ rfl (LO.fieldAddr_imm rfl rfl ty49 rfl (by decide)) ?_;(· (first|rfl|assumption)))
            | (refine RW.ud rfl rfl rfl rfl ?_)
        first
            | (refine RW.sd rfl rfl rfl ?_ rfl ?_;(· (first|rfl|assumption)))
            | (refine RW.gd rfl rfl rfl ?_ rfl (LO.load rfl rfl rfl rfl ty27 rfl) ?_;(· (first|rfl|assumption)))
            | (refine RW.gd rfl rfl rfl ?_ rfl (LO.load_imm rfl rfl rfl ty27 rfl) ?_;(· (first|rfl|assumption)))
            | (refine RW.ud rfl rfl rfl rfl ?_)
        refine Ud rfl rfl rfl rfl ?_
        first
            | (refine RW.sd rfl rfl rfl ?_ rfl ?_;(· (first|rfl|assumption)))
            | (refine RW.gd rfl rfl rfl ?_ rfl (LO.pick_t rfl rfl ?_ rfl) ?_;(· (first|rfl|assumption));(· (first|rfl|assumption)))
            | (refine RW.gd rfl rfl rfl ?_ rfl (LO.pick_f rfl rfl ?_ rfl) ?_;(· (first|rfl|assumption));(· (first|rfl|assumption)))
            | (refine RW.ud rfl rfl rfl rfl ?_)
        first
            | (refine RW.sd rfl rfl rfl ?_ rfl ?_;(· (first|rfl|assumption)))
            | (refine RW.gd rfl rfl rfl ?_ rfl (LO.pick_t rfl rfl ?_ rfl) ?_;(· (first|rfl|assumption));(· (first|rfl|assumption)))
            | (refine RW.gd rfl rfl rfl ?_ rfl (LO.pick_f rfl rfl ?_ rfl) ?_;(· (first|rfl|assumption));(· (first|rfl|assumption)))
        first
            | (refine RW.opd rfl rfl (LO.pick_t rfl rfl ?_ rfl) ?_;(· (first|rfl|assumption)))
            | (refine RW.opd rfl rfl (LO.pick_f rfl rfl ?_ rfl) ?_;(· (first|rfl|assumption)))
        refine qM rfl ?_
        first
            | (refine RW.sd rfl rfl rfl ?_ rfl ?_;(· (first|rfl|assumption)))
            | (refine RW.gd rfl rfl rfl ?_ rfl (LO.call0 (fr:=[]) rfl rfl (hawk) fok14 .nil rfl) ?_;(· (first|rfl|assumption)))
        first
            | (refine RW.opd rfl rfl (LO.pick_t rfl rfl ?_ rfl) ?_;(· (first|rfl|assumption)))
            | (refine RW.opd rfl rfl (LO.pick_f rfl rfl ?_ rfl) ?_;(· (first|rfl|assumption)))
        refine qA rfl (Nl (Wz ⟨.inl rfl,_,mt,Rc (Rt rfl) (Rv),aM,?_⟩))
        exact ⟨rfl,rfl⟩
      · have k0:(v == w)=false:=by simpa using hvw
        have k3:decide ((fx.length:Int) > 1500)=true:=decide_eq_true (by rcases hs1 with h|h;exact absurd h hvw;omega)
        refine Wq (qW 117 152 rfl (qM rfl (qM rfl (qE rfl (qM rfl ?_)))))
        first
            | (refine RW.sd rfl rfl rfl ?_ rfl ?_;(· (first|rfl|assumption)))
            | (refine RW.gd rfl rfl rfl ?_ rfl (LO.fieldAddr rfl rfl ty26 rfl (by decide)) ?_;(· (first|rfl|assumption)))
            | (refine RW.gd rfl rfl rfl ?_ rfl (LO.fieldAddr_imm rfl rfl ty26 rfl (by decide)) ?_;(· (first|rfl|assumption)))
        first
            | (refine RW.sd rfl rfl rfl ?_ rfl ?_;(· (first|rfl|assumption)))
            | (refine RW.gd rfl rfl rfl ?_ rfl (LO.load rfl rfl rfl rfl ty24 rfl) ?_;(· (first|rfl|assumption)))
            | (refine RW.gd rfl rfl rfl ?_ rfl (LO.load_imm rfl rfl rfl ty24 rfl) ?_;(· (first|rfl|assumption)))
        first
            | (refine RW.sd rfl rfl rfl ?_ rfl ?_;(· (first|rfl|assumption)))
            | (refine RW.gd rfl rfl rfl ?_ rfl (LO.len rfl rfl ty24) ?_;(· (first|rfl|assumption)))
            | (refine RW.gd rfl rfl rfl ?_ rfl (LO.len_isl rfl rfl rfl ty24) ?_;(· (first|rfl|assumption)))
            | (refine RW.gd rfl rfl rfl ?_ rfl (LO.len_nil rfl rfl ty24) ?_;(· (first|rfl|assumption)))
        first
            | (refine RW.sd rfl rfl rfl ?_ rfl ?_;(· (first|rfl|assumption)))
            | (refine RW.gd rfl rfl rfl ?_ rfl (LO.gtr rfl rfl rfl) ?_;(· (first|rfl|assumption)))
        first
            | (refine RW.opd rfl rfl (LO.pick_t rfl rfl ?_ rfl) ?_;(· (first|rfl|assumption)))
            | (refine RW.opd rfl rfl (LO.pick_f rfl rfl ?_ rfl) ?_;(· (first|rfl|assumption)))
        refine qM rfl ?_
        first
            | (refine RW.sd rfl rfl rfl ?_ rfl ?_;(· (first|rfl|assumption)))
            | (refine RW.gd rfl rfl rfl ?_ rfl (LO.move rfl rfl) ?_;(· (first|rfl|assumption)))
        first
            | (refine RW.sd rfl rfl rfl ?_ rfl ?_;(· (first|rfl|assumption)))
            | (refine RW.gd rfl rfl rfl ?_ rfl (LO.neq rfl rfl rfl) ?_;(· (first|rfl|assumption)))
        first
            | (refine RW.sd rfl rfl rfl ?_ rfl ?_;(· (first|rfl|assumption)))
            | (refine RW.gd rfl rfl rfl ?_ rfl (LO.move rfl rfl) ?_;(· (first|rfl|assumption)))
        first
            | (refine RW.sd rfl rfl rfl ?_ rfl ?_;(· (first|rfl|assumption)))
            | (refine RW.gd rfl rfl rfl ?_ rfl (LO.move rfl rfl) ?_;(· (first|rfl|assumption)))
            | (refine RW.ud rfl rfl rfl rfl ?_)
        first
            | (refine RW.sd rfl rfl rfl ?_ rfl ?_;(· (first|rfl|assumption)))
            | (refine RW.gd rfl rfl rfl ?_ rfl (LO.neq rfl rfl rfl) ?_;(· (first|rfl|assumption)))
            | (refine RW.ud rfl rfl rfl rfl ?_)
        first
            | (refine RW.sd rfl rfl rfl ?_ rfl ?_;(· (first|rfl|assumption)))
            | (refine RW.gd rfl rfl rfl ?_ rfl (LO.pick_t rfl rfl ?_ rfl) ?_;(· (first|rfl|assumption));(· (first|rfl|assumption)))
            | (refine RW.gd rfl rfl rfl ?_ rfl (LO.pick_f rfl rfl ?_ rfl) ?_;(· (first|rfl|assumption));(· (first|rfl|assumption)))
        first
            | (refine RW.sd rfl rfl rfl ?_ rfl ?_;(· (first|rfl|assumption)))
            | (refine RW.gd rfl rfl rfl ?_ rfl (LO.move rfl rfl) ?_;(· (first|rfl|assumption)))
        first
            | (refine RW.sd rfl rfl rfl ?_ rfl ?_;(· (first|rfl|assumption)))
            | (refine RW.gd rfl rfl rfl ?_ rfl (LO.fieldAddr rfl rfl ty49 rfl (by decide)) ?_;(· (first|rfl|assumption)))
            | (refine RW.gd rfl rfl rfl ?_ rfl (LO.fieldAddr_imm rfl rfl ty49 rfl (by decide)) ?_;(· (first|rfl|assumption)))
            | (refine RW.ud rfl rfl rfl rfl ?_)
        first
            | (refine RW.sd rfl rfl rfl ?_ rfl ?_;(· (first|rfl|assumption)))
            | (refine RW.gd rfl rfl rfl ?_ rfl (LO.load rfl rfl rfl rfl ty3 rfl) ?_;(· (first|rfl|assumption)))
            | (refine RW.gd rfl rfl rfl ?_ rfl (LO.load_imm rfl rfl rfl ty3 rfl) ?_;(· (first|rfl|assumption)))
            | (refine RW.ud rfl rfl rfl rfl ?_)
        first
            | (refine RW.sd rfl rfl rfl ?_ rfl ?_;(· (first|rfl|assumption)))
            | (refine RW.gd rfl rfl rfl ?_ rfl (LO.fieldAddr rfl rfl ty49 rfl (by decide)) ?_;(· (first|rfl|assumption)))
            | (refine RW.gd rfl rfl rfl ?_ rfl (LO.fieldAddr_imm rfl rfl ty49 rfl (by decide)) ?_;(· (first|rfl|assumption)))
            | (refine RW.ud rfl rfl rfl rfl ?_)
        first
            | (refine RW.sd rfl rfl rfl ?_ rfl ?_;(· (first|rfl|assumption)))
            | (refine RW.gd rfl rfl rfl ?_ rfl (LO.load rfl rfl rfl rfl ty3 rfl) ?_;(· (first|rfl|assumption)))
            | (refine RW.gd rfl rfl rfl ?_ rfl (LO.load_imm rfl rfl rfl ty3 rfl) ?_;(· (first|rfl|assumption)))
            | (refine RW.ud rfl rfl rfl rfl ?_)
        first
            | (refine RW.sd rfl rfl rfl ?_ rfl ?_;(· (first|rfl|assumption)))
            | (refine RW.gd rfl rfl rfl ?_ rfl (LO.eql rfl rfl rfl) ?_;(· (first|rfl|assumption)))
            | (refine RW.ud rfl rfl rfl rfl ?_)
        first
            | (refine RW.sd rfl rfl rfl ?_ rfl ?_;(· (first|rfl|assumption)))
            | (refine RW.gd rfl rfl rfl ?_ rfl (LO.move rfl rfl) ?_;(· (first|rfl|assumption)))
            | (refine RW.ud rfl rfl rfl rfl ?_)
        first
            | (refine RW.sd rfl rfl rfl ?_ rfl ?_;(· (first|rfl|assumption)))
            | (refine RW.gd rfl rfl rfl ?_ rfl (LO.fieldAddr rfl rfl ty49 rfl (by decide)) ?_;(· (first|rfl|assumption)))
            | (refine RW.gd rfl rfl rfl ?_ rfl (LO.fieldAddr_imm rfl rfl ty49 rfl (by decide)) ?_;(· (first|rfl|assumption)))
            | (refine RW.ud rfl rfl rfl rfl ?_)
        first
            | (refine RW.sd rfl rfl rfl ?_ rfl ?_;(· (first|rfl|assumption)))
            | (refine RW.gd rfl rfl rfl ?_ rfl (LO.load rfl rfl rfl rfl ty27 rfl) ?_;(· (first|rfl|assumption)))
            | (refine RW.gd rfl rfl rfl ?_ rfl (LO.load_imm rfl rfl rfl ty27 rfl) ?_;(· (first|rfl|assumption)))
            | (refine RW.ud rfl rfl rfl rfl ?_)
        first
            | (refine RW.sd rfl rfl rfl ?_ rfl ?_;(· (first|rfl|assumption)))
            | (refine RW.gd rfl rfl rfl ?_ rfl (LO.fieldAddr rfl rfl ty49 rfl (by decide)) ?_;(· (first|rfl|assumption)))
            | (refine RW.gd rfl rfl rfl ?_ rfl (LO.fieldAddr_imm rfl rfl ty49 rfl (by decide)) ?_;(· (first|rfl|assumption)))
            | (refine RW.ud rfl rfl rfl rfl ?_)
        first
            | (refine RW.sd rfl rfl rfl ?_ rfl ?_;(· (first|rfl|assumption)))
            | (refine RW.gd rfl rfl rfl ?_ rfl (LO.load rfl rfl rfl rfl ty27 rfl) ?_;(· (first|rfl|assumption)))
            | (refine RW.gd rfl rfl rfl ?_ rfl (LO.load_imm rfl rfl rfl ty27 rfl) ?_;(· (first|rfl|assumption)))
            | (refine RW.ud rfl rfl rfl rfl ?_)
        refine Ud rfl rfl rfl rfl ?_
        first
            | (refine RW.sd rfl rfl rfl ?_ rfl ?_;(· (first|rfl|assumption)))
            | (refine RW.gd rfl rfl rfl ?_ rfl (LO.pick_t rfl rfl ?_ rfl) ?_;(· (first|rfl|assumption));(· (first|rfl|assumption)))
            | (refine RW.gd rfl rfl rfl ?_ rfl (LO.pick_f rfl rfl ?_ rfl) ?_;(· (first|rfl|assumption));(· (first|rfl|assumption)))
            | (refine RW.ud rfl rfl rfl rfl ?_)
        first
            | (refine RW.sd rfl rfl rfl ?_ rfl ?_;(· (first|rfl|assumption)))
            | (refine RW.gd rfl rfl rfl ?_ rfl (LO.pick_t rfl rfl ?_ rfl) ?_;(· (first|rfl|assumption));(· (first|rfl|assumption)))
            | (refine RW.gd rfl rfl rfl ?_ rfl (LO.pick_f rfl rfl ?_ rfl) ?_;(· (first|rfl|assumption));(· (first|rfl|assumption)))
        first
            | (refine RW.opd rfl rfl (LO.pick_t rfl rfl ?_ rfl) ?_;(· (first|rfl|assumption)))
            | (refine RW.opd rfl rfl (LO.pick_f rfl rfl ?_ rfl) ?_;(· (first|rfl|assumption)))
        refine qM rfl ?_
        first
            | (refine RW.sd rfl rfl rfl ?_ rfl ?_;(· (first|rfl|assumption)))
            | (refine RW.gd rfl rfl rfl ?_ rfl (LO.call0 (fr:=[]) rfl rfl (hawk) fok14 .nil rfl) ?_;(· (first|rfl|assumption)))
        first
            | (refine RW.opd rfl rfl (LO.pick_t rfl rfl ?_ rfl) ?_;(· (first|rfl|assumption)))
            | (refine RW.opd rfl rfl (LO.pick_f rfl rfl ?_ rfl) ?_;(· (first|rfl|assumption)))
        refine qA rfl (Nl (Wz ⟨.inl rfl,_,mt,Rc (Rt rfl) (Rv),aM,?_⟩))
        exact ⟨rfl,rfl⟩
end Go.Proofs.YtlcndmciognneaaGreatDoor
