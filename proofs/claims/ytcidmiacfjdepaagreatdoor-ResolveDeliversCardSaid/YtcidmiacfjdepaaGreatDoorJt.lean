/-
  The check of sanity; ResolveFinds.
-/
import Derived.Test.YtcidmiacfjdepaaGreatDoorJs
import Derived.Test.YtcidmiacfjdepaaGreatDoorJj
import Derived.Test.YtcidmiacfjdepaaGreatDoorMab
namespace Go.Proofs.YtcidmiacfjdepaaGreatDoor
open Go.RowKit
theorem fr_pure (f:Fr):(frC f).all AV.pure1=true:=by
  unfold frC
  simp only [List.all_append,bytesC_pure,Bool.true_and]
  rfl
theorem newN_any:AFn Tryz.prog 13 0 [.nils] mt (.own 0 0) (up mt 0 (some (deckC [] 0))) :=
  AFn.arg0x (new_any []) fun _ _ _ _ h=>h.nil_isl
/-- the tables of a made database -/
theorem DbFine.tables {l:List Int} {d:Db} (h:DbFine l d) (g:Int→Int) (rate burst:Int) {bs:List Bd} (hp:List.Perm bs (bdsOf (allP d))) (hm:MacOk bs):TablesOk ((allP d).map (ruleOf g rate burst)) bs:=by
  have hl:=h.len
  refine ⟨by rw [List.length_map];omega,?_,fun r hr=>?_,hm⟩
  · rw [hp.length_eq]
    have key:∀ ps:List Prt,(bdsOf ps).length≤2 * ps.length:=by
      intro ps
      induction ps with
      | nil=>simp [bdsOf]
      | cons p ps ih =>
        have h1:=ad1_len p.v4
        have h2:=ad1_len p.v6
        rw [show bdsOf (p::ps)=bdsAt p (ad1 p.v4++ad1 p.v6)++bdsOf ps from rfl,List.length_append,bdsAt,List.length_map,List.length_append,List.length_cons]
        omega
    have:=key (allP d)
    omega
  · obtain ⟨p,hpm,rfl⟩:=List.mem_map.1 hr
    have ho:=h.ok.mem
    obtain ⟨m,hm1,hm2⟩:=List.mem_flatMap.1 hpm
    have hpo:=(ho m hm1).ports p hm2
    exact ⟨by have:=hpo.nm;dsimp only [ruleOf];omega,fun x hx=>(hpo.macs x hx).1⟩
theorem macs0_tk {p:Prt} {m:List Int} (hm:m=macOf p) (h6:∀ x,x∈p.macs→x.length=6) (hl:0 < p.macs.length):Tk (macsC p.macs) (0 * 6) 6 (bytesC m):=by
  have:=macs_tk h6 hl
  rw [show p.macs[0]=m from by rw [hm];unfold macOf;match p.macs,hl with
      | x::l,_=>rfl] at this
  exact this
theorem DbFine.prt {l:List Int} {d:Db} (h:DbFine l d) {i:Nat} (hi:i < (allP d).length):(∀ x,x∈(allP d)[i].macs→x.length=6)∧0 < (allP d)[i].macs.length∧(allP d)[i].macs.length≤2∧(macOf (allP d)[i]).length=6∧(1≤(allP d)[i].id∧(allP d)[i].id≤999):=by
  have hl:=h.len
  have g:=(h.good i hi).ok (by omega) (by omega)
  have hm:=macOf_mem (h.good i hi) (by omega) (by omega)
  have:=g.nm
  exact ⟨fun x hx=>(g.macs x hx).1,by omega,by omega,hm.2.1,g.id⟩
theorem arpB_isB {a:Arp} (h1:IsB a.fm) (h2:IsB a.tm):IsB (arpB a):=by
  unfold arpB
  refine IsB.append (IsB.append (IsB.append (IsB.append (fun x hx=>?_) h1) (addrL_isB _)) h2) (addrL_isB _)
  have hw:0≤IntKind.u8.wrap a.op∧IntKind.u8.wrap a.op≤255:=by rw [IntKind.wrap_u8'];omega
  simp only [List.mem_cons,List.not_mem_nil,or_false] at hx
  rcases hx with rfl|rfl|rfl|rfl|rfl|rfl|rfl|rfl<;>first|exact hw|decide
theorem reqF_ok {m:List Int} {s d:Ad} (h6:m.length=6) (hB:IsB m) (hs:s.v6=false) (hd:d.v6=false):FrOk (reqF m (reqA m s d)) :=
  ⟨rfl,h6,arpB_isB hB (fun x hx=>by simp [reqA] at hx;omega),by
    show (arpB (reqA m s d)).length≤100000
    rw [arpB_len h6 rfl hs hd];decide⟩
theorem ip4_v6 {a:Ad} (h:ip4 a=true):a.v6=false:=by
  unfold ip4 at h
  simp at h
  exact h.2
theorem encReq {m:List Int} {s d:Ad} (h6:m.length=6) (hs:ip4 s=true) (hd:ip4 d=true) (u1:U64 s.hi∧U64 s.lo) (u2:U64 d.hi∧U64 d.lo):AFn Tryz.prog 17 0 [.agg (arpC (reqA m s d))] mt (.tup [.isl (bytesC (arpB (reqA m s d))) (arpB (reqA m s d)).length,.base (.int .i64 0)]) mt:=by
  have:=encA_any (reqA m s d) h6 rfl (reqA_ok hs hd) u1 u2
  rw [arpB_len h6 rfl (ip4_v6 hs) (ip4_v6 hd)]
  exact this
set_option maxHeartbeats 4000000 in
theorem awake_any:AFn Tryz.prog 5 0 [] mt (.base (.bool true)) mt:=by
  refine AFn.eq Tryz.func5 rfl rfl (Nat.le_of_ble_eq_true rfl) ?_
  obtain ⟨vd,Hd,hdb,d,a1,hmade,rfl,rfl⟩:=database_any [] 0 (by decide)
  have hfine:=hmade.fine
  have hlen:=hfine.len
  obtain ⟨g,hru⟩:=rules_any d hfine.ok hfine.once hfine.ports (by omega) 1 2 (by decide)
  obtain ⟨vb,Hb,hbi,bs,⟨hperm,hmo⟩,rfl,rfl⟩:=bindings_any d hfine.ok hfine.ports (by omega) (fun p hp=>by
    obtain ⟨i,hi,rfl⟩:=List.getElem_of_mem hp
    exact (hfine.good i hi).ok (by omega) (by omega))
  have htab:=hfine.tables g 1 2 hperm hmo
  have hz0:=hfine.nil rfl _ (List.getElem_mem (show 0 < (allP d).length by omega))
  have hz1:=hfine.nil rfl _ (List.getElem_mem (show 1 < (allP d).length by omega))
  have hfind:=hfine.finds (rs:=(allP d).map (ruleOf g 1 2)) hperm (i:=0) (j:=1) (by omega) (by omega) hz0 hz1
  have hne:(allP d)[1].id≠(allP d)[0].id:=by
    have h0:=(hfine.good 0 (by omega)).id
    have h1:=(hfine.good 1 (by omega)).id
    omega
  rw [if_neg hne] at hfind
  obtain ⟨m60,ml0,ml0',mo0,_⟩:=hfine.prt (show 0 < (allP d).length by omega)
  obtain ⟨m61,ml1,ml1',mo1,_⟩:=hfine.prt (show 1 < (allP d).length by omega)
  obtain ⟨p1,p2⟩:=v4_ok (hfine.good 0 (by omega)) (by omega) (by omega)
  obtain ⟨q1,q2⟩:=v4_ok (hfine.good 1 (by omega)) (by omega) (by omega)
  have hp4:=(v4_in hz0).2
  have hq4:=(v4_in hz1).2
  have hb0:=(macOf_mem (hfine.good 0 (by omega)) (by omega) (by omega)).2.2
  have hps:allP d=(allP d)[0]::(allP d)[1]::(allP d).drop 2:=by
    rw [← List.drop_eq_getElem_cons (by omega)]
    exact (List.drop_eq_getElem_cons (show 0 < (allP d).length by omega)) ▸ rfl
  have hrs:(allP d).map (ruleOf g 1 2)=ruleOf g 1 2 (allP d)[0]::ruleOf g 1 2 (allP d)[1]::((allP d).drop 2).map (ruleOf g 1 2):=by
    conv=>lhs;rw [hps]
    rfl
  generalize (allP d)[0]=P at *
  generalize (allP d)[1]=Q at *
  rw [hrs] at hru hfind htab
  generalize ((allP d).drop 2).map (ruleOf g 1 2)=R at *
  clear hrs hps hmade
  have hreq:=request_any (macOf P) P.v4 Q.v4 mo0
  have henc:=encReq mo0 p1 q1 p2 q2
  have hdel:=deliver_any _ bs P.id _ htab (reqF_ok mo0 hb0 (ip4_v6 p1) (ip4_v6 q1))
  rw [hfind] at hdel
  have tP:=macs0_tk (p:=P) rfl m60 ml0
  have tQ:=macs0_tk (p:=Q) rfl m61 ml1
  unfold reqF at hdel
  generalize arpB (reqA (macOf P) P.v4 Q.v4)=B at *
  generalize macOf P=mp at *
  generalize macOf Q=mq at *
  obtain ⟨x0,x1,x2,x3,x4,x5,rfl⟩:=six_of mo0
  obtain ⟨y0,y1,y2,y3,y4,y5,rfl⟩:=six_of mo1
  have hdel:AFn Tryz.prog 10 0 [.isl (rulesC (ruleOf g 1 2 P::ruleOf g 1 2 Q::R)) (ruleOf g 1 2 P::ruleOf g 1 2 Q::R).length,.isl (bdsC bs) bs.length,.base (.int .i64 P.id),.agg (bytesC bcM++bytesC [x0,x1,x2,x3,x4,x5]++[.base (.int .i64 0),.base (.int .i64 2054),.isl (bytesC B) B.length])] mt (.tup [.base (.int .i64 Q.id),.agg (bytesC [y0,y1,y2,y3,y4,y5]++bytesC [x0,x1,x2,x3,x4,x5]++[.base (.int .i64 0),.base (.int .i64 2054),.isl (bytesC B) B.length]),.base (.int .i64 0)]) mt:=hdel
  unfold ruleOf at hru hdel
  rw [hp4,hq4] at hru hdel
  clear hfind hfine hperm htab hz0 hz1 hne hlen p1 p2 q1 q2 m60 m61 hp4 hq4 hb0
  have ke:decide (([y0,y1,y2,y3,y4,y5]:List Int)=[y0,y1,y2,y3,y4,y5])=true:=decide_eq_true rfl
  have ks:((strOfNums B).toList == (strOfNums B).toList)=true:=by simp
  have kq:(Q.id == Q.id)=true:=by simp
  refine Wq (qW 0 1 rfl rfl rfl (qA rfl rfl (Nl (Wq (qW 5 9 rfl rfl rfl (Od rfl rfl (CN (fr:=[]) rfl rfl (newN_any) fok13 (.cons rfl (.pure rfl) .nil) rfl (by decide)) (Od rfl rfl (C1 (fr:=[]) rfl rfl (hdb) fok14 (.own rfl rfl .nil) rfl rfl rfl (Cn _ _) (by decide) rfl) (qB rfl ty53 (qS rfl rfl rfl rfl rfl ty53 rfl rfl (Sl rfl) (Nl (Wq (qW 13 20 rfl rfl rfl (qG rfl rfl rfl ty53 rfl (Tl rfl) (Od rfl rfl (C0 (fr:=[]) rfl rfl (hru) fok15 (.cons rfl (.pure rfl) (.cons rfl (.pure rfl) (.cons rfl (.pure rfl) .nil))) rfl) (qM rfl rfl (qX rfl rfl rfl (qX rfl rfl rfl (qA rfl rfl (qA rfl rfl (Nl (Wq (qW 24 27 rfl rfl rfl (qG rfl rfl rfl ty53 rfl (Tl rfl) (Od rfl rfl (C0 (fr:=[]) rfl rfl (hbi) fok16 (.cons rfl (.pure rfl) .nil) rfl) (qA rfl rfl (Nl (Wq (Wd 31 56 (by decide) rfl mixed rfl (qM rfl rfl (qJ rfl rfl rfl rfl rfl ty30 ty35 (by first|omega|decide|assumption|(simp;done)|(simp;omega)) (qI rfl rfl ty35 rfl rfl (Od rfl rfl (Li rfl rfl rfl ty32 rfl) (qJ rfl rfl rfl rfl rfl ty32 ty23 (by first|omega|decide|assumption|(simp;done)|(simp;omega)) (Od rfl rfl (Lg rfl rfl ty23 rfl tP) (qM rfl rfl (qJ rfl rfl rfl rfl rfl ty30 ty35 (by first|omega|decide|assumption|(simp;done)|(simp;omega)) (qI rfl rfl ty35 rfl rfl (Od rfl rfl (Li rfl rfl rfl ty33 rfl) (qJ rfl rfl rfl rfl rfl ty33 ty42 (by first|omega|decide|assumption|(simp;done)|(simp;omega)) (Od rfl rfl (Lg rfl rfl ty42 rfl (Tl rfl)) (qM rfl rfl (qJ rfl rfl rfl rfl rfl ty30 ty35 (by first|omega|decide|assumption|(simp;done)|(simp;omega)) (qI rfl rfl ty35 rfl rfl (Od rfl rfl (Li rfl rfl rfl ty33 rfl) (qJ rfl rfl rfl rfl rfl ty33 ty42 (by first|omega|decide|assumption|(simp;done)|(simp;omega)) (Od rfl rfl (Lg rfl rfl ty42 rfl (Tl rfl)) (Od rfl rfl (C0 (fr:=[]) rfl rfl (hreq) fok18 (.cons rfl (.pure rfl) (.cons rfl (.pure rfl) (.cons rfl (.pure rfl) .nil))) rfl) (Od rfl rfl (C0 (fr:=[]) rfl rfl (henc) fok17 (.cons rfl (.pure rfl) .nil) rfl) (qM rfl rfl (qX rfl rfl rfl (qX rfl rfl rfl (qA rfl rfl (qA rfl rfl (Nl ⟨by kernel_rfl,(Wq (Wd 60 84 (by decide) rfl mixed rfl (qM rfl rfl (qM rfl rfl (qM rfl rfl (qJ rfl rfl rfl rfl rfl ty30 ty35 (by first|omega|decide|assumption|(simp;done)|(simp;omega)) (qI rfl rfl ty35 rfl rfl (Od rfl rfl (Li rfl rfl rfl ty3 rfl) (Od rfl rfl (C0 (fr:=[]) rfl rfl (bcX_any) fok19 .nil rfl) (qM rfl rfl (qJ rfl rfl rfl rfl rfl ty30 ty35 (by first|omega|decide|assumption|(simp;done)|(simp;omega)) (qI rfl rfl ty35 rfl rfl (Od rfl rfl (Li rfl rfl rfl ty32 rfl) (qJ rfl rfl rfl rfl rfl ty32 ty23 (by first|omega|decide|assumption|(simp;done)|(simp;omega)) (Od rfl rfl (Lg rfl rfl ty23 rfl tP) (qM rfl rfl (Od rfl rfl (Bs rfl ty26 (.cons rfl rfl rfl rfl (Sl rfl) (.cons rfl rfl rfl rfl (Sl rfl) (.cons rfl rfl rfl rfl (Sl rfl) (.cons rfl rfl rfl rfl (Sl rfl) .nil))))) (Od rfl rfl (C0 (fr:=[]) rfl rfl (hdel) fok10 (.cons rfl (.pure rfl) (.cons rfl (.pure rfl) (.cons rfl (.pure rfl) (.cons rfl (.pure rfl) .nil)))) rfl) (qM rfl rfl (qX rfl rfl rfl (qX rfl rfl rfl (qX rfl rfl rfl (qB rfl ty26 (qA rfl rfl (qS rfl rfl rfl rfl rfl ty26 rfl rfl (Sl rfl) (qA rfl rfl (Nl ⟨by kernel_rfl,(Wq (Wd 88 118 (by decide) rfl mixed rfl (qM rfl rfl (qM rfl rfl (qJ rfl rfl rfl rfl rfl ty30 ty35 (by first|omega|decide|assumption|(simp;done)|(simp;omega)) (qI rfl rfl ty35 rfl rfl (Od rfl rfl (Li rfl rfl rfl ty3 rfl) (qE rfl rfl rfl (qM rfl rfl (Gd rfl rfl rfl ‹_› rfl (Mv rfl rfl) (Gd rfl rfl rfl ‹_› rfl (Eq0 rfl rfl rfl) (qT rfl rfl ‹_› rfl (qM rfl rfl (Gd rfl rfl rfl rfl rfl (Fa rfl rfl ty26 rfl (by decide)) (Gd rfl rfl rfl rfl rfl (La rfl rfl rfl ty23 rfl (Tl rfl)) (Gd rfl rfl rfl rfl rfl (Mv rfl rfl) (Gd rfl rfl rfl rfl rfl (Ii rfl rfl rfl rfl rfl ty30 ty35 (by first|omega|decide|assumption|(simp;done)|(simp;omega))) (Gd rfl rfl rfl rfl rfl (Fi rfl rfl ty35 rfl (by decide)) (Gd rfl rfl rfl rfl rfl (Li rfl rfl rfl ty32 rfl) (Gd rfl rfl rfl rfl rfl (Ii rfl rfl rfl rfl rfl ty32 ty23 (by first|omega|decide|assumption|(simp;done)|(simp;omega))) (Gd rfl rfl rfl rfl rfl (Lg rfl rfl ty23 rfl tQ) (Gd rfl rfl rfl rfl rfl (LO.eql_mac [y0,y1,y2,y3,y4,y5] [y0,y1,y2,y3,y4,y5] rfl rfl rfl rfl rfl) (qT rfl rfl rfl rfl (qM rfl rfl (Gd rfl rfl rfl ‹_› rfl (Fa rfl rfl ty26 rfl (by decide)) (Gd rfl rfl rfl ‹_› rfl (Ld rfl rfl rfl rfl ty24 rfl) (Gd rfl rfl rfl ‹_› rfl (LO.str (xs:=B) rfl rfl Tryz.underlying24 Tryz.underlying5 Tryz.underlying9) (Gd rfl rfl rfl ‹_› rfl (Mv rfl rfl) (Gd rfl rfl rfl ‹_› rfl (LO.str (xs:=B) rfl rfl Tryz.underlying24 Tryz.underlying5 Tryz.underlying9) (Gd rfl rfl rfl ‹_› rfl (LO.eql_str rfl rfl rfl) (qT rfl rfl ‹_› rfl (qA rfl rfl (Nl ⟨by kernel_rfl,(Wz ⟨.inl rfl,_,mt,Rc (Rt rfl) (Rn),all_mt,?_⟩)⟩)))))))))))))))))))))))))))))))))⟩)))))))))))))))))))))))))))⟩))))))))))))))))))))))))))))))))))))))))))))))))))))))
  exact ⟨by rw [ks];rfl,rfl⟩
end Go.Proofs.YtcidmiacfjdepaaGreatDoor
