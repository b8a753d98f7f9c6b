/-
  The document's rules of the ports.
-/
import Derived.Test.YtcidmiacfjdepaaGreatDoorJh
import Derived.Test.YtcidmiacfjdepaaGreatDoorMab
namespace Go.Proofs.YtcidmiacfjdepaaGreatDoor
open Go.RowKit
structure Rl where
  port:Int
  asn:Int
  sw:Int
  macs:List (List Int)
  v4:List Ad
  v6:List Ad
  rate:Int
  burst:Int
def adsC (l:List Ad):List AV:=l.flatMap adC
def ruleC (r:Rl):List AV:=[.base (.int .i64 r.port),.base (.int .i64 r.asn),.base (.int .i64 r.sw),.isl (macsC r.macs) r.macs.length,.isl (adsC r.v4) r.v4.length,.isl (adsC r.v6) r.v6.length,.base (.int .i64 r.rate),.base (.int .i64 r.burst)]
def rulesC (l:List Rl):List AV:=l.flatMap ruleC
theorem rulesC_pure (l:List Rl):(rulesC l).all AV.pure1=true:=flatPure (fun _=>rfl) l
theorem rules_all {l:List Rl} {n:Nat} (h:l.length=n):Tk (rulesC l) 0 (n * 8) (rulesC l):=flatAll (c:=ruleC) (fun _=>rfl) h
theorem rules_tk {l:List Rl} {k:Nat} (h:k < l.length):Tk (rulesC l) (k * 8) 8 (ruleC l[k]):=flatTk (c:=ruleC) (fun _=>rfl) h
theorem adsC_pure (l:List Ad):(adsC l).all AV.pure1=true:=flatPure (fun _=>rfl) l
theorem ads_tk {l:List Ad} {k:Nat} (h:k < l.length):Tk (adsC l) (k * 3) 3 (adC l[k]):=flatTk (c:=adC) (fun _=>rfl) h
def ad1 (a:Ad):List Ad:=if zeroA a=true then [] else [a]
def ruleOf (g:Int→Int) (rate burst:Int) (p:Prt):Rl:=⟨p.id,g p.id,p.sw,p.macs,ad1 p.v4,ad1 p.v6,rate,burst⟩
set_option maxHeartbeats 1000000 in
theorem rules_any (d:Db) (hd:DbOk d) (ho:Once d) (hp:portsOf d=allP d) (hl:(allP d).length≤1000) (rate burst:Int) (hr:0≤rate∧rate≤burst∧burst≤1048576) :
    ∃ g:Int→Int,AFn Tryz.prog 15 0 [.agg (dbC d),.base (.int .i64 rate),.base (.int .i64 burst)] mt (.tup [.isl (rulesC ((allP d).map (ruleOf g rate burst))) ((allP d).map (ruleOf g rate burst)).length,.base (.int .i64 0)]) mt:=by
  obtain ⟨g,gb,hg⟩:=owner_ex d hd
  refine ⟨g,AFn.eq Tryz.func15 rfl rfl (Nat.le_of_ble_eq_true rfl) ?_⟩
  have hck:=dbck_any d hd ho
  have hpo:=ports_any d hd (by rw [hp];exact hl)
  rw [hp] at hpo
  generalize allP d=ps at *
  obtain ⟨rs,hrs⟩:∃ rs,rs=ps.map (ruleOf g rate burst):=⟨_,rfl⟩
  rw [← hrs]
  have hrl:rs.length=ps.length:=by rw [hrs,List.length_map]
  have k1:decide (burst < 0)=false:=decide_eq_false (by omega)
  have k2:decide (burst > 1048576)=false:=decide_eq_false (by omega)
  have k3:decide (rate < 0)=false:=decide_eq_false (by omega)
  have k4:decide (rate > burst)=false:=decide_eq_false (by omega)
  clear hp ho
  refine Wq (qW 0 3 rfl rfl rfl (qC rfl rfl rfl (qA rfl rfl (qA rfl rfl (Nl (Wq (Wq (qW 7 10 rfl rfl rfl (qG rfl rfl rfl ty53 rfl (Tl rfl) (Od rfl rfl (C0 (fr:=[]) rfl rfl (hck) fok39 (.cons rfl (.pure rfl) .nil) rfl) (qA rfl rfl (Nl (Wq (qW 14 16 rfl rfl rfl (qM rfl rfl (qN rfl rfl rfl (Nl (Wf rfl rfl (Wk (Wq (Wq (qW 27 42 rfl rfl rfl (qM rfl rfl (qK rfl rfl rfl (qM rfl rfl (Gd rfl rfl rfl ‹_› rfl (Mv rfl rfl) (Gd rfl rfl rfl ‹_› rfl (Gt0 rfl rfl rfl) (qP rfl rfl ‹_› rfl (qM rfl rfl (Gd rfl rfl rfl ‹_› rfl (Mv rfl rfl) (Gd rfl rfl rfl ‹_› rfl (Ls rfl rfl rfl) (qP rfl rfl ‹_› rfl (qM rfl rfl (Gd rfl rfl rfl ‹_› rfl (Mv rfl rfl) (Gd rfl rfl rfl ‹_› rfl (Mv rfl rfl) (Gd rfl rfl rfl ‹_› rfl (Gt0 rfl rfl rfl) (qP rfl rfl ‹_› rfl (Nl (Wf rfl ‹_› (Wk (Wq (qW 52 53 rfl rfl rfl (qA rfl rfl (Nl (W.name 53 (53 + 1) (t:=9) (sz:=8) rfl (by decide) (by decide) (Wq (Wq (qW 57 61 rfl rfl rfl (qG rfl rfl rfl ty53 rfl (Tl rfl) (Od rfl rfl (C0 (fr:=[]) rfl rfl (hpo) fok40 (.cons rfl (.pure rfl) .nil) rfl) (qH rfl rfl rfl ty93 (qM rfl rfl (Nl (Wb (W.rename [(0,0),(1,53)] 2 (T':=up (up (up (up (up (up (up mt 1 (some (.base (.int .i64 rate)))) 2 (some (.base (.int .i64 burst)))) 3 (some (.own 0 0))) 9 (some (.osl 1 0 0 8))) 36 (some (.isl (prtsC ps) ps.length))) 37 (some (.base (.int .i64 (ps.length:Int))))) 38 (some (.base (.int .i64 (0:Int))))) (H':=up (up mt 0 (some (dbC d))) 1 (some (rulesC (rs.take 0)))) (by decide) ?_ ?_ ?_)))))))))))))))))))))))))))))))))))))))))))))))))))))))
  · (repeat' (first|exact all_mt|refine all_up ?_ ?_))<;>first|exact .inl ⟨rfl,rfl⟩|exact .inr ⟨rfl,fun _ h=>by cases h⟩|exact .inl ⟨rfl,by first|rfl|assumption|exact (rulesC_pure _)⟩
  · (repeat' (first|exact all_mt|refine all_up ?_ ?_))<;>first|exact ⟨rfl,_,rfl,.inr ⟨rfl,rfl⟩⟩|exact ⟨rfl,_,rfl,.inl rfl⟩|exact ⟨rfl,_,rfl,.inr ⟨rfl,by first|rfl|assumption|exact (rulesC_pure _)⟩⟩
  refine W.loop_ind (α:=Nat) (fun x=>ps.length - x) 2 (fun x=>up (up (up (up (up (up (up mt 1 (some (.base (.int .i64 rate)))) 2 (some (.base (.int .i64 burst)))) 3 (some (.own 0 0))) 9 (some (.osl 1 0 x 8))) 36 (some (.isl (prtsC ps) ps.length))) 37 (some (.base (.int .i64 (ps.length:Int))))) 38 (some (.base (.int .i64 (x:Int))))) (fun x=>up (up mt 0 (some (dbC d))) 1 (some (rulesC (rs.take x)))) (fun x=>x≤ps.length) 0 (show 0≤ps.length from Nat.zero_le _) ?_
  rintro i hIA ihA
  try (dsimp only at hIA)
  try dsimp only
  by_cases hc:i < ps.length
  · have g1:decide ((i:Int) < (ps.length:Int))=true:=decide_eq_true (by omega)
    have hri:rs.take (i + 1)=rs.take i++[ruleOf g rate burst ps[i]]:=by
      rw [hrs,List.take_succ_eq_append_getElem (by simpa using hc)]
      simp
    have hti:(rs.take i).length=i:=by rw [List.length_take];omega
    refine Wq (qW 65 66 rfl rfl rfl (qK rfl rfl rfl (Nl (Wq (Wt rfl ‹_› (Wk (Wq (Wb (Wq (qW 70 74 rfl rfl rfl (qJ rfl rfl rfl rfl rfl ty93 ty102 (by first|omega|decide|assumption|(simp;done)|(simp;omega)) (Od rfl rfl (Lg rfl rfl ty102 rfl (prts_tk hc)) (qB rfl ty102 (qS rfl rfl rfl rfl rfl ty102 rfl rfl (Sl rfl) (Nl ?_)))))))))))))))
    generalize ps[i]=p at *
    have hgi:=hg p.id
    obtain ⟨id,sw,sp,macs,v4,v6⟩:=p
    dsimp only at hgi
    refine Wq (qW 78 87 rfl rfl rfl (qG rfl rfl rfl ty53 rfl (Tl rfl) (qF rfl rfl ty102 rfl rfl (qL rfl rfl rfl rfl ty3 rfl (Od rfl rfl (C0 (fr:=[]) rfl rfl (hgi) fok41 (.cons rfl (.pure rfl) (.cons rfl (.pure rfl) .nil)) rfl) (qM rfl rfl (qX rfl rfl rfl (qX rfl rfl rfl (qA rfl rfl (qA rfl rfl (Nl (Wq (qW 91 103 rfl rfl rfl (qF rfl rfl ty102 rfl rfl (qL rfl rfl rfl rfl ty3 rfl (qM rfl rfl (qF rfl rfl ty102 rfl rfl (qL rfl rfl rfl rfl ty3 rfl (qF rfl rfl ty102 rfl rfl (qL rfl rfl rfl rfl ty32 rfl (qM rfl rfl (qM rfl rfl (Od rfl rfl (Bs rfl ty35 (.cons rfl rfl rfl rfl (Sl rfl) (.cons rfl rfl rfl rfl (Sl rfl) (.cons rfl rfl rfl rfl (Sl rfl) (.cons rfl rfl rfl rfl (Sl rfl) (.cons rfl rfl rfl rfl (Sl rfl) (.cons rfl rfl rfl rfl (Sl rfl) .nil))))))) (qB rfl ty35 (qS rfl rfl rfl rfl rfl ty35 rfl rfl (Sl rfl) (Nl (Wq (W.joinK (α:=List Ad) 4 (fun x=>[(1,.base (.int .i64 rate)),(2,.base (.int .i64 burst)),(3,.own 0 0),(9,.osl 1 0 i 8),(11,.own 2 0),(14,.own 3 0)]) (fun x=>up (up (up (up mt 0 (some (dbC d))) 1 (some (rulesC (rs.take i)))) 2 (some (prtC ⟨id,sw,sp,macs,v4,v6⟩))) 3 (some ([.base (.int .i64 id),.base (.int .i64 (g id)),.base (.int .i64 sw),.isl (macsC macs) macs.length,.isl (adsC x) x.length,.nils,.base (.int .i64 rate),.base (.int .i64 burst)]))) (fun x=>x=ad1 v4) (.cons (t:=36) rfl (by first|exact .inl rfl|exact .inr ⟨rfl,fun _ h=>by cases h⟩|(exact .inl (by assumption))|exact .inl (rulesC_pure _)) (.cons (t:=37) rfl (by first|exact .inl rfl|exact .inr ⟨rfl,fun _ h=>by cases h⟩|(exact .inl (by assumption))|exact .inl (rulesC_pure _)) (.cons (t:=38) rfl (by first|exact .inl rfl|exact .inr ⟨rfl,fun _ h=>by cases h⟩|(exact .inl (by assumption))|exact .inl (rulesC_pure _)) .nil))) ?_ ?_))))))))))))))))))))))))))))
    rotate_left
    rintro L hIF
    try (dsimp only at hIF)
    try dsimp only [joinT,baseT,List.cons_append,List.nil_append]
    rotate_right
    ·
      by_cases hz:zeroA v4=true
      · have gz:(!eqA v4 ⟨false,0,0⟩)=false:=by rw [show eqA v4 ⟨false,0,0⟩=true from hz];rfl
        refine Wq (qW 107 111 rfl rfl rfl (qF rfl rfl ty102 rfl rfl (qG rfl rfl rfl ty42 rfl (Tl rfl) (Od rfl rfl (Bs rfl ty42 .nil) (Od rfl rfl (LO.neq_ad v4 ⟨false,0,0⟩ rfl rfl rfl) (Nl (Wf rfl ‹_› (Wk ?_))))))))
        intro yJ KJ hJ
        refine W.nilc (q:=101) (j:=4) rfl rfl (Sl rfl) (W.renameJ [(0,0),(1,1),(2,72),(3,101)] 4 (by decide) ?_ ?_ (hJ (([]:List Ad)) (show (([]:List Ad))=ad1 v4 from by unfold ad1;rw [if_pos hz])))
        · (repeat' (first|exact LookR.nil|refine LookR.cons ?_ ?_))<;>first|exact .inl ⟨rfl,rfl⟩|exact .inr ⟨rfl,fun _ h=>by cases h⟩|exact .inl ⟨rfl,by first|rfl|assumption|exact (rulesC_pure _)⟩
        · (repeat' (first|exact all_mt|refine all_up ?_ ?_))<;>first|exact ⟨rfl,_,rfl,.inr ⟨rfl,rfl⟩⟩|exact ⟨rfl,_,rfl,.inl rfl⟩|exact ⟨rfl,_,rfl,.inr ⟨rfl,by first|rfl|assumption|exact (rulesC_pure _)⟩⟩
      · have gz:(!eqA v4 ⟨false,0,0⟩)=true:=by rw [show eqA v4 ⟨false,0,0⟩=false from by simpa [zeroA] using hz];rfl
        refine Wq (qW 107 111 rfl rfl rfl (qF rfl rfl ty102 rfl rfl (qG rfl rfl rfl ty42 rfl (Tl rfl) (Od rfl rfl (Bs rfl ty42 .nil) (Od rfl rfl (LO.neq_ad v4 ⟨false,0,0⟩ rfl rfl rfl) (Nl (Wt rfl ‹_› (qW 115 120 rfl rfl rfl (qF rfl rfl ty102 rfl rfl (qG rfl rfl rfl ty42 rfl (Tl rfl) (Od rfl rfl (LO.buildSlice rfl ty33 ty42 (by decide) (by decide) (.cons rfl rfl rfl rfl (Sl rfl) .nil)) (qF rfl rfl ty35 rfl rfl (qS rfl rfl rfl rfl rfl ty33 rfl rfl (Sl rfl) (Nl ?_))))))))))))))
        intro yJ KJ hJ
        refine Wv (q:=101) (j:=4) (r:=117) rfl rfl (by decide) rfl (Tl rfl) rfl (Sl rfl) (W.renameJ [(0,0),(1,1),(2,72),(3,101)] 4 (by decide) ?_ ?_ (hJ [v4] (show [v4]=ad1 v4 from by unfold ad1;rw [if_neg hz])))
        · (repeat' (first|exact LookR.nil|refine LookR.cons ?_ ?_))<;>first|exact .inl ⟨rfl,rfl⟩|exact .inr ⟨rfl,fun _ h=>by cases h⟩|exact .inl ⟨rfl,by first|rfl|assumption|exact (rulesC_pure _)⟩
        · (repeat' (first|exact all_mt|refine all_up ?_ ?_))<;>first|exact ⟨rfl,_,rfl,.inr ⟨rfl,rfl⟩⟩|exact ⟨rfl,_,rfl,.inl rfl⟩|exact ⟨rfl,_,rfl,.inr ⟨rfl,by first|rfl|assumption|exact (rulesC_pure _)⟩⟩
    refine Wq (W.joinK (α:=List Ad) 3 (fun x=>[(1,.base (.int .i64 rate)),(2,.base (.int .i64 burst)),(3,.own 0 0),(9,.osl 1 0 i 8),(14,.own 2 0)]) (fun x=>up (up (up mt 0 (some (dbC d))) 1 (some (rulesC (rs.take i)))) 2 (some (ruleC ⟨id,g id,sw,macs,L,x,rate,burst⟩))) (fun x=>x=ad1 v6) (.cons (t:=36) rfl (by first|exact .inl rfl|exact .inr ⟨rfl,fun _ h=>by cases h⟩|(exact .inl (by assumption))|exact .inl (rulesC_pure _)) (.cons (t:=37) rfl (by first|exact .inl rfl|exact .inr ⟨rfl,fun _ h=>by cases h⟩|(exact .inl (by assumption))|exact .inl (rulesC_pure _)) (.cons (t:=38) rfl (by first|exact .inl rfl|exact .inr ⟨rfl,fun _ h=>by cases h⟩|(exact .inl (by assumption))|exact .inl (rulesC_pure _)) .nil))) ?_ ?_)
    rotate_left
    rintro M hIG
    try (dsimp only at hIG)
    try dsimp only [joinT,baseT,List.cons_append,List.nil_append]
    rotate_right
    ·
      by_cases hz:zeroA v6=true
      · have gz:(!eqA v6 ⟨false,0,0⟩)=false:=by rw [show eqA v6 ⟨false,0,0⟩=true from hz];rfl
        refine Wq (qW 124 128 rfl rfl rfl (qF rfl rfl ty102 rfl rfl (qG rfl rfl rfl ty42 rfl (Tl rfl) (Od rfl rfl (Bs rfl ty42 .nil) (Od rfl rfl (LO.neq_ad v6 ⟨false,0,0⟩ rfl rfl rfl) (Nl (Wf rfl ‹_› (Wk ?_))))))))
        intro yJ KJ hJ
        refine W.nilc (q:=3) (j:=5) rfl rfl (Sl rfl) (W.renameJ [(0,0),(1,1),(2,3)] 3 (by decide) ?_ ?_ (hJ (([]:List Ad)) (show (([]:List Ad))=ad1 v6 from by unfold ad1;rw [if_pos hz])))
        · (repeat' (first|exact LookR.nil|refine LookR.cons ?_ ?_))<;>first|exact .inl ⟨rfl,rfl⟩|exact .inr ⟨rfl,fun _ h=>by cases h⟩|exact .inl ⟨rfl,by first|rfl|assumption|exact (rulesC_pure _)⟩
        · (repeat' (first|exact all_mt|refine all_up ?_ ?_))<;>first|exact ⟨rfl,_,rfl,.inr ⟨rfl,rfl⟩⟩|exact ⟨rfl,_,rfl,.inl rfl⟩|exact ⟨rfl,_,rfl,.inr ⟨rfl,by first|rfl|assumption|exact (rulesC_pure _)⟩⟩
      · have gz:(!eqA v6 ⟨false,0,0⟩)=true:=by rw [show eqA v6 ⟨false,0,0⟩=false from by simpa [zeroA] using hz];rfl
        refine Wq (qW 124 128 rfl rfl rfl (qF rfl rfl ty102 rfl rfl (qG rfl rfl rfl ty42 rfl (Tl rfl) (Od rfl rfl (Bs rfl ty42 .nil) (Od rfl rfl (LO.neq_ad v6 ⟨false,0,0⟩ rfl rfl rfl) (Nl (Wt rfl ‹_› (qW 132 137 rfl rfl rfl (qF rfl rfl ty102 rfl rfl (qG rfl rfl rfl ty42 rfl (Tl rfl) (Od rfl rfl (LO.buildSlice rfl ty33 ty42 (by decide) (by decide) (.cons rfl rfl rfl rfl (Sl rfl) .nil)) (qF rfl rfl ty35 rfl rfl (qS rfl rfl rfl rfl rfl ty33 rfl rfl (Sl rfl) (Nl ?_))))))))))))))
        intro yJ KJ hJ
        refine Wv (q:=3) (j:=5) (r:=134) rfl rfl (by decide) rfl (Tl rfl) rfl (Sl rfl) (W.renameJ [(0,0),(1,1),(2,3)] 3 (by decide) ?_ ?_ (hJ [v6] (show [v6]=ad1 v6 from by unfold ad1;rw [if_neg hz])))
        · (repeat' (first|exact LookR.nil|refine LookR.cons ?_ ?_))<;>first|exact .inl ⟨rfl,rfl⟩|exact .inr ⟨rfl,fun _ h=>by cases h⟩|exact .inl ⟨rfl,by first|rfl|assumption|exact (rulesC_pure _)⟩
        · (repeat' (first|exact all_mt|refine all_up ?_ ?_))<;>first|exact ⟨rfl,_,rfl,.inr ⟨rfl,rfl⟩⟩|exact ⟨rfl,_,rfl,.inl rfl⟩|exact ⟨rfl,_,rfl,.inr ⟨rfl,by first|rfl|assumption|exact (rulesC_pure _)⟩⟩
    have hL:=‹L=_›
    have hM:=‹M=_›
    refine qW 141 146 rfl rfl rfl (qM rfl rfl (qG rfl rfl rfl ty35 rfl (Tl rfl) (Od rfl rfl (LO.buildSlice rfl ty30 ty35 (by decide) (by decide) (.cons rfl rfl rfl rfl (Sl rfl) .nil)) (Od rfl rfl (Lap rfl rfl (Sso rfl rfl (Tl rfl)) rfl (rules_all hti) ty30 ty30 ty35 (by decide) (by first|omega|decide|assumption|(simp;done)|(simp;omega)) (by first|omega|decide|assumption|(simp;done)|(simp;omega)) (by first|decide|omega)) (qA rfl rfl (Nl ?_))))))
    rw [show rulesC (rs.take i)++[.base (.int .i64 id),.base (.int .i64 (g id)),.base (.int .i64 sw),.isl (macsC macs) macs.length,.isl (adsC L) L.length,.isl (adsC M) M.length,.base (.int .i64 rate),.base (.int .i64 burst)]=rulesC (rs.take (i + 1)) from by rw [hri,hL,hM];simp [rulesC,ruleC,ruleOf]]
    refine qW 150 152 rfl rfl rfl (qZ rfl rfl rfl (by (first|exact IntWalk.i64_in _ (by omega)|assumption)) (qM rfl rfl (Nl (WL.rename [(0,0),(1,144)] 2 (by decide) ?_ ?_ (ihA (i + 1) (show ps.length - (i + 1) < ps.length - i from by omega) (show (i + 1)≤ps.length from by omega))))))
    · (repeat' (first|exact all_mt|refine all_up ?_ ?_))<;>first|exact .inl ⟨rfl,rfl⟩|exact .inr ⟨rfl,fun _ h=>by cases h⟩|exact .inl ⟨rfl,by first|rfl|assumption|exact (rulesC_pure _)⟩
    · (repeat' (first|exact all_mt|refine all_up ?_ ?_))<;>first|exact ⟨rfl,_,rfl,.inr ⟨rfl,rfl⟩⟩|exact ⟨rfl,_,rfl,.inl rfl⟩|exact ⟨rfl,_,rfl,.inr ⟨rfl,by first|rfl|assumption|exact (rulesC_pure _)⟩⟩
  · have g1:decide ((i:Int) < (ps.length:Int))=false:=decide_eq_false (by omega)
    refine Wq (qW 65 66 rfl rfl rfl (qK rfl rfl rfl (Nl (Wq (Wf rfl ‹_› (Wx ?_))))))
    clear ihA
    obtain rfl:i=ps.length:=by omega
    rw [← hrl,List.take_length]
    refine Wq (qW 156 159 rfl rfl rfl (qM rfl rfl (qA rfl rfl (qA rfl rfl (Nl (Wy (t:=6) rfl rfl (rules_all rfl) (rulesC_pure _) ?_))))))
    refine W.ret ⟨.inl rfl,_,mt,(RVs.cons (RV.tmp rfl) (RVs.cons (RV.tmp rfl) RVs.nil)),(by (repeat' (first|exact all_mt|refine all_up ?_ ?_))<;>rfl),?_⟩
    exact ⟨rfl,rfl⟩
end Go.Proofs.YtcidmiacfjdepaaGreatDoor
