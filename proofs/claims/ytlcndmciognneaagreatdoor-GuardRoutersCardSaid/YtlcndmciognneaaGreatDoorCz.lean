/-
  Reading a message: the program. Small facts on packets and bytes.
-/
import Derived.Test.YtlcndmciognneaaGreatDoorQl
import Derived.Test.YtlcndmciognneaaGreatDoorMab
namespace Go.Proofs.YtlcndmciognneaaGreatDoor
open Go.RowKit
def zNb:Nb:=⟨0,0,zAd,false,zMac⟩
def adOf (b:List Int):Ad:=⟨(b.length:Int) == 16,(fb b).1,(fb b).2⟩
def tgF (k:Int) (B:List Int):Ad:=if targB k then adOf ((B.drop 4).take (20 - 4)) else zAd
def flF (k:Int) (B:List Int):Int:=if k=136 then (gB B 0).fdiv (2 ^ (min (5:Int).toNat IntKind.u8.bits)) else 0
def rdB (s:Ad) (k:Int) (B:List Int):Nb × Int :=
 if B.length < fixN k then (zNb,4)
 else if targB k=true∧grpA (tgF k B)=true then (zNb,5)
 else match optF (B.drop (fixN k)).length (B.drop (fixN k)) (optN k) false zMac with
  | none=>(zNb,5)
  | some r=>if k=135∧r.1=true∧eqA s ⟨true,0,0⟩=true then (zNb,5) else (⟨k,flF k B,tgF k B,r.1,r.2⟩,0)
def decR (p:Pk):Nb × Int:=if chkE p≠0 then (zNb,chkE p) else rdB p.s (gB p.bs 0) (p.bs.drop 4)
def decV (p:Pk):AV:=.tup [.agg (nbC (decR p).1),.base (.int .i64 (decR p).2)]
theorem optF_len:∀ (q:Nat) (b:List Int) (num:Int) (has:Bool) (ln:List Int),ln.length=6→∀ r,optF q b num has ln=some r→r.2.length=6:=by
 intro q
 induction q with
 | zero=>intro b num has ln h r hr;unfold optF at hr;injection hr with hr;subst hr;exact h
 | succ q ih =>
  intro b num has ln h r hr
  unfold optF at hr
  split at hr
  ·injection hr with hr;subst hr;exact h
  ·split at hr
   ·cases hr
   ·rename_i hb
    split at hr
    ·rename_i hc
     refine ih _ _ _ _ ?_ r hr
     have:(8:Int)≤b.length:=by omega
     simp;omega
    ·exact ih _ _ _ _ h r hr
theorem fix_len {n:Nb} (h6:n.tg.v6=true):(fixL n).length=fixN n.k:=by
 have:=addrL_len n.tg
 rw [h6] at this
 simp only [if_true] at this
 unfold fixL fixN
 by_cases c1:n.k=133
 ·simp [c1]
 ·by_cases c2:n.k=134
  ·simp [c2]
  ·by_cases c3:n.k=137
   ·simp [c3,this]
   ·simp [c1,c2,c3,this]
theorem sp_mac {a b c d e f:AV} {l m:List Int} (hl:l.length=6) (hm:m.length=6):Sp ([a,b,c,d,e,f]++bytesC l) (0 + 6) (bytesC m) ([a,b,c,d,e,f]++bytesC m):=by
 refine ⟨by simp [bytesC_len,hl,hm],by simp [bytesC_len,hl,hm],fun j x hj=>?_⟩
 rcases Nat.lt_or_ge j 6 with h|h
 ·rw [List.getElem?_append_left (by simpa using h)] at hj
  exact .inr ⟨.inl (by omega),by rw [List.getElem?_append_left (by simpa using h)];exact hj⟩
 ·rw [List.getElem?_append_right (by simpa using h)] at hj
  exact .inl ⟨by omega,by simpa using hj⟩
theorem sp_has {a b c d e f g:AV} {m:List Int}:Sp ([a,b,c,d,e,f]++bytesC m) (0 + 5) [g] ([a,b,c,d,e,g]++bytesC m):=by
 refine ⟨by simp,by simp,fun j x hj=>?_⟩
 match j with
 | 0=>exact .inr ⟨.inl (by omega),hj⟩
 | 1=>exact .inr ⟨.inl (by omega),hj⟩
 | 2=>exact .inr ⟨.inl (by omega),hj⟩
 | 3=>exact .inr ⟨.inl (by omega),hj⟩
 | 4=>exact .inr ⟨.inl (by omega),hj⟩
 | 5=>exact .inl ⟨by omega,hj⟩
 | j + 6=>exact .inr ⟨.inr (by simp),hj⟩
theorem nb_len {a b c d e f:AV} {m:List Int} (hm:m.length=6):([a,b,c,d,e,f]++bytesC m).length=12:=by simp [bytesC_len,hm]
theorem nb_tk {a b c d e f:AV} {m:List Int} (hm:m.length=6):Tk ([a,b,c,d,e,f]++bytesC m) 0 12 ([a,b,c,d,e,f]++bytesC m):=by
 have:=Tk.all ([a,b,c,d,e,f]++bytesC m)
 rwa [nb_len hm] at this
theorem opt_pure (l:List Int) (u v:Value):(AV.tup [.agg (bytesC l),.base u,.base v]).pure=true:=by
 show (AV.pure2 (.agg (bytesC l)) && true)=true
 rw [Bool.and_true];exact bytesC_pure l
set_option maxHeartbeats 2000000 in
theorem dec_any (p:Pk) (hB:IsB p.bs) (s1:U64 p.s.hi) (s2:U64 p.s.lo) (d1:U64 p.d.hi) (d2:U64 p.d.lo):AFn Tryz.prog 116 0 [.agg (pkC p)] mt (decV p) mt:=by
 refine AFn.eq Tryz.func116 rfl rfl (Nat.le_of_ble_eq_true rfl) ?_
 have hck:=check_any p hB s1 s2 d1 d2
 obtain ⟨E,hE⟩:∃ E,chkE p=E:=⟨_,rfl⟩
 by_cases he:E=0
 rotate_left
 ·have g1:(E != 0)=true:=by simpa using he
  have hv:decV p=.tup [.agg (nbC zNb),.base (.int .i64 E)]:=by unfold decV decR;rw [hE,if_pos he]
  rw [hv]
  rw [hE] at hck
  refine Wq<|qW 0 3 rfl<|qC rfl<|qB rfl ty87<|qA rfl<|Nl<|Wq<|Wq<|qW 7 10 rfl<|qG rfl ty83 rfl (Tl rfl)<|qY rfl (hck) fok152 rfl<|qA rfl<|Nl<|Wq<|qW 14 16 rfl<|qM rfl<|qN rfl<|Nl<|Wt rfl ‹_›<|Wq<|qW 20 24 rfl<|Od rfl rfl (Bs rfl ty87 .nil)<|qM rfl<|qS rfl ty87 (Sl rfl) rfl<|qA rfl<|Nl<|Wz ⟨.inl rfl,_,mt,(Rc (Ra0 rfl rfl ty87 rfl (Tl rfl)) (Rc (Rt0 rfl) Rv)),aM,?_⟩
  exact ⟨rfl,rfl⟩
 ·subst he
  have hlen:4≤p.bs.length∧p.bs.length≤1480∧133≤gB p.bs 0∧gB p.bs 0≤137:=by
   unfold chkE at hE
   cases hv:vpk p with
   | false=>rw [hv] at hE;simp at hE
   | true =>
    obtain ⟨_,_,v3⟩:=vpk_parts hv
    rw [hv] at hE
    simp only [Bool.not_true,Bool.false_eq_true,if_false] at hE
    split at hE
    ·cases hE
    ·split at hE
     ·cases hE
     ·split at hE
      ·cases hE
      ·split at hE
       ·cases hE
       ·split at hE
        ·cases hE
        ·rename_i h1 h2 h3 h4 h5
         simp only [Bool.or_eq_true,decide_eq_true_eq,not_or,Bool.not_eq_true] at h3 h5
         omega
  obtain ⟨hl4,hl5,k1,k2⟩:=hlen
  have hv:decV p=.tup [.agg (nbC (rdB p.s (gB p.bs 0) (p.bs.drop 4)).1),.base (.int .i64 (rdB p.s (gB p.bs 0) (p.bs.drop 4)).2)]:=by unfold decV decR;rw [hE];rfl
  rw [hv]
  rw [hE] at hck
  have hat:=by_at (l:=p.bs) (k:=0) (by omega)
  obtain ⟨k,hk⟩:∃ k,gB p.bs 0=k:=⟨_,rfl⟩
  rw [hk] at k1 k2 hat ⊢
  have hfx:=fixed_any ⟨k,0,⟨true,0,0⟩,false,zMac⟩ rfl rfl (show U64 0 from ⟨by decide,by decide⟩) (show U64 0 from ⟨by decide,by decide⟩)
  rw [fix_len (n:=⟨k,0,⟨true,0,0⟩,false,zMac⟩) rfl] at hfx
  have htg:=targeted_any k
  have hop:=option_any k
  have hfn:fixN k≤36∧4≤fixN k:=by unfold fixN;split<;>(try split)<;>(try split)<;>omega
  have hBl:(p.bs.drop 4).length=p.bs.length - 4:=by simp
  have hBB:=hB.drop 4
  refine Wq<|qW 0 3 rfl<|qC rfl<|qB rfl ty87<|qA rfl<|Nl<|Wq<|Wq<|qW 7 10 rfl<|qG rfl ty83 rfl (Tl rfl)<|qY rfl (hck) fok152 rfl<|qA rfl<|Nl<|Wq<|qW 14 16 rfl<|qM rfl<|qN rfl<|Nl<|Wo rfl rfl<|Wu ?_
  unfold pkC adC
  refine Wq<|qW 28 36 rfl<|qF rfl ty83 rfl<|qL rfl ty24 rfl<|qJ rfl rfl ty24 ty5 (by simp;omega)<|Od rfl rfl (Li rfl rfl hat ty5 rfl)<|Od rfl rfl (Ci rfl rfl ty5 ty3 (iW _ (by omega)))<|Od rfl rfl (Bs rfl ty87 (.cons rfl rfl rfl rfl (Sl rfl) .nil))<|qB rfl ty87<|qS rfl ty87 (Sl rfl) rfl<|Nl<|Wq<|qW 40 44 rfl<|qF rfl ty83 rfl<|qL rfl ty24 rfl<|Od rfl rfl (Lsi rfl rfl rfl (Ba rfl rfl) Bnd.no (by omega) (by omega) ty24 ty5 (by_drop (l:=p.bs) (k:=4) rfl))<|qA rfl<|Nl ?_
  rw [← hBl]
  obtain ⟨B,hBe⟩:∃ B,p.bs.drop 4=B:=⟨_,rfl⟩
  rw [hBe] at hBB hBl ⊢
  refine Wq<|qW 48 55 rfl<|qF rfl ty87 rfl<|qL rfl ty3 rfl<|Od rfl rfl (Bs rfl ty54 (.cons rfl rfl rfl rfl (Sl rfl) .nil))<|Od rfl rfl (Bs rfl ty87 (.cons rfl rfl rfl rfl (Sl rfl) (.cons rfl rfl rfl rfl (Sl rfl) .nil)))<|Od rfl rfl (LO.callO (fr:=[]) rfl rfl (hfx) fok153 (.cons rfl (.pure rfl) .nil) (bytesC_pure _) (by decide))<|Od rfl rfl (LO.len rfl rfl ty24)<|qA rfl<|Nl ?_
  by_cases hsz:B.length < fixN k
  ·have g1:decide ((B.length:Int) < (fixN k:Int))=true:=decide_eq_true (by omega)
   have hr:rdB p.s k B=(zNb,4):=if_pos hsz
   rw [hr]
   refine Wq<|Wq<|qW 59 63 rfl<|qM rfl<|qH rfl ty24<|qM rfl<|qK rfl<|Nl<|Wt rfl ‹_›<|Wq<|qW 67 70 rfl<|Od rfl rfl (Bs rfl ty87 .nil)<|qS rfl ty87 (Sl rfl) rfl<|qA rfl<|Nl<|Wz ⟨.inl rfl,_,mt,(Rc (Ra0 rfl rfl ty87 rfl (Tl rfl)) (Rc (Rt0 rfl) Rv)),aM,?_⟩
   exact ⟨rfl,rfl⟩
  ·have g1:decide ((B.length:Int) < (fixN k:Int))=false:=decide_eq_false (by omega)
   refine Wq<|Wq<|qW 59 63 rfl<|qM rfl<|qH rfl ty24<|qM rfl<|qK rfl<|Nl<|Wo rfl ‹_›<|Wu<|Wq<|Wq<|qW 74 77 rfl<|qF rfl ty87 rfl<|qL rfl ty3 rfl<|qY rfl (htg) fok154 rfl<|Nl ?_
   have hrd:rdB p.s k B=if targB k=true∧grpA (tgF k B)=true then ((zNb,5):Nb × Int) else match optF (B.drop (fixN k)).length (B.drop (fixN k)) (optN k) false zMac with
    | none=>(zNb,5)
    | some r=>if k=135∧r.1=true∧eqA p.s ⟨true,0,0⟩=true then (zNb,5) else (⟨k,flF k B,tgF k B,r.1,r.2⟩,0):=by unfold rdB;rw [if_neg hsz]
   have h20:targB k=true→fixN k=36∨fixN k=20:=fun h=>by
    unfold targB at h;simp only [Bool.and_eq_true,decide_eq_true_eq] at h
    unfold fixN;rw [if_neg (by omega),if_neg (by omega)];split<;>simp
   have hcase:(targB k=true∧grpA (tgF k B)=true)∨(targB k=false∧(k == 136)=false∧tgF k B=zAd∧flF k B=0)∨(targB k=true∧grpA (tgF k B)=false∧(k == 136)=false∧flF k B=0)∨(targB k=true∧grpA (tgF k B)=false∧(k == 136)=true∧flF k B=(gB B 0).fdiv (2 ^ (min (5:Int).toNat IntKind.u8.bits))):=by
    cases ht:targB k with
    | false =>
     have hk:k≠136:=fun e=>by rw [e] at ht;exact absurd ht (by decide)
     exact .inr (.inl ⟨rfl,by simpa using hk,by unfold tgF;rw [ht];rfl,by unfold flF;rw [if_neg hk]⟩)
    | true =>
     cases hg:grpA (tgF k B) with
     | true=>exact .inl ⟨rfl,rfl⟩
     | false =>
      by_cases hk:k=136
      ·exact .inr (.inr (.inr ⟨rfl,rfl,by simpa using hk,by unfold flF;rw [if_pos hk]⟩))
      ·exact .inr (.inr (.inl ⟨rfl,rfl,by simpa using hk,by unfold flF;rw [if_neg hk]⟩))
   have hfr:targB k=true→AFn Tryz.prog 143 0 [.isl (bytesC ((B.drop 4).take (20 - 4))) (20 - 4)] mt (.tup [.agg (adC (tgF k B)),.base (.int .i64 0)]) mt:=fun h=>by
    have hl16:((B.drop 4).take (20 - 4)).length=16:=by have:=h20 h;simp;omega
    have:=from_any ((B.drop 4).take (20 - 4)) ((hBB.drop 4).take _) (.inr hl16)
    have e:tgF k B=adOf ((B.drop 4).take (20 - 4)):=by unfold tgF;rw [h];rfl
    rw [e]
    rw [hl16] at this
    unfold adOf
    rw [hl16]
    exact this
   have hgr:=group_any (tgF k B)
   obtain ⟨TG,hTG⟩:∃ TG,tgF k B=TG:=⟨_,rfl⟩
   obtain ⟨FL,hFL⟩:∃ FL,flF k B=FL:=⟨_,rfl⟩
   rw [hTG] at hrd hcase hfr hgr
   rw [hFL] at hrd hcase
   have hfd:0≤(gB B 0).fdiv (2 ^ (min (5:Int).toNat IntKind.u8.bits))∧(gB B 0).fdiv (2 ^ (min (5:Int).toNat IntKind.u8.bits))≤255:=by
    have:=hBB.at 0
    rw [show (2:Int) ^ (min (5:Int).toNat IntKind.u8.bits)=32 from by decide,Int.fdiv_eq_ediv_of_nonneg _ (by decide)];omega
   have hopt:=options_any (B.drop (fixN k)) (optN k) (hBB.drop _) (by simp;omega)
   obtain ⟨R,hR⟩:∃ R,optF (B.drop (fixN k)).length (B.drop (fixN k)) (optN k) false zMac=R:=⟨_,rfl⟩
   have hR6:=fun r h=>optF_len _ _ _ _ _ (show zMac.length=6 from rfl) r (hR.trans h)
   rw [hR] at hopt hrd
   rw [List.length_drop] at hopt
   have hat4:1≤B.length→(bytesC B)[0 * 1]?=some (.base (.int .u8 (gB B 0))):=fun h=>by_at (by omega)
   rcases hcase with ⟨ht,hg⟩|⟨ht,hk6,htz,hfz⟩|⟨ht,hg,hk6,hfz⟩|⟨ht,hg,hk6,hfz⟩
   case' inl =>
    rw [if_pos ⟨ht,hg⟩] at hrd
    rw [hrd]
    rw [hg] at hgr
    have h20t:=h20 ht
    refine Wt rfl (ht)<|Wq<|qW 81 89 rfl<|qM rfl<|Od rfl rfl (Lsi rfl rfl rfl (Ba rfl rfl) (Ba rfl rfl) (by decide) (by simp;omega) ty24 ty5 (by_part (l:=B) (k:=4) (m:=20) (by decide) (by have:=h20 ht;omega)))<|qY rfl ((hfr ht)) fok143 rfl<|qM rfl<|qX rfl<|qX rfl<|qF rfl ty87 rfl<|qS rfl ty54 (Sl rfl) rfl<|Nl ?_
    unfold adC at hgr ⊢
    refine Wq<|qW 93 96 rfl<|qF rfl ty87 rfl<|qG rfl ty54 rfl (Tl rfl)<|qY rfl (hgr) fok155 rfl<|Nl<|Wt rfl rfl<|Wq<|qW 100 103 rfl<|Od rfl rfl (Bs rfl ty87 .nil)<|qS rfl ty87 (Sl rfl) rfl<|qA rfl<|Nl<|Wz ⟨.inl rfl,_,mt,(Rc (Ra0 rfl rfl ty87 rfl (Tl rfl)) (Rc (Rt0 rfl) Rv)),aM,?_⟩
    exact ⟨rfl,rfl⟩
   case' inr.inl =>
    refine Wo rfl (ht)<|Wu<|Wq<|Wq<|qW 107 110 rfl<|qF rfl ty87 rfl<|qL rfl ty3 rfl<|qE rfl<|Nl<|Wo rfl ‹_›<|Wu<|Wq<|qW 125 126 rfl<|qA rfl<|Nl ?_
    rw [if_neg (by rw [ht];simp)] at hrd
   case' inr.inr.inl =>
    rw [hg] at hgr
    have h20t:=h20 ht
    refine Wt rfl (ht)<|Wq<|qW 81 89 rfl<|qM rfl<|Od rfl rfl (Lsi rfl rfl rfl (Ba rfl rfl) (Ba rfl rfl) (by decide) (by simp;omega) ty24 ty5 (by_part (l:=B) (k:=4) (m:=20) (by decide) (by have:=h20 ht;omega)))<|qY rfl ((hfr ht)) fok143 rfl<|qM rfl<|qX rfl<|qX rfl<|qF rfl ty87 rfl<|qS rfl ty54 (Sl rfl) rfl<|Nl ?_
    unfold adC at hgr ⊢
    refine Wq<|qW 93 96 rfl<|qF rfl ty87 rfl<|qG rfl ty54 rfl (Tl rfl)<|qY rfl (hgr) fok155 rfl<|Nl<|Wo rfl rfl<|Wu<|Wq<|Wq<|qW 107 110 rfl<|qF rfl ty87 rfl<|qL rfl ty3 rfl<|qE rfl<|Nl<|Wo rfl ‹_›<|Wu<|Wq<|qW 125 126 rfl<|qA rfl<|Nl ?_
    rw [if_neg (by rw [hg];simp)] at hrd
   case' inr.inr.inr =>
    rw [hg] at hgr
    have h20t:=h20 ht
    refine Wt rfl (ht)<|Wq<|qW 81 89 rfl<|qM rfl<|Od rfl rfl (Lsi rfl rfl rfl (Ba rfl rfl) (Ba rfl rfl) (by decide) (by simp;omega) ty24 ty5 (by_part (l:=B) (k:=4) (m:=20) (by decide) (by have:=h20 ht;omega)))<|qY rfl ((hfr ht)) fok143 rfl<|qM rfl<|qX rfl<|qX rfl<|qF rfl ty87 rfl<|qS rfl ty54 (Sl rfl) rfl<|Nl ?_
    unfold adC at hgr ⊢
    refine Wq<|qW 93 96 rfl<|qF rfl ty87 rfl<|qG rfl ty54 rfl (Tl rfl)<|qY rfl (hgr) fok155 rfl<|Nl<|Wo rfl rfl<|Wu<|Wq<|Wq<|qW 107 110 rfl<|qF rfl ty87 rfl<|qL rfl ty3 rfl<|qE rfl<|Nl<|Wt rfl ‹_›<|qW 114 121 rfl<|qM rfl<|qJ rfl rfl ty24 ty5 (by simp;omega)<|Od rfl rfl (Li rfl rfl (hat4 (by have:=h20 ht;omega)) ty5 rfl)<|Od rfl rfl (LO.shr rfl rfl rfl (by omega))<|Od rfl rfl (Ci rfl rfl ty5 ty3 (iW _ (by omega)))<|qF rfl ty87 rfl<|qS rfl ty3 (Sl rfl) rfl<|Nl<|Wq<|qW 125 126 rfl<|qA rfl<|Nl ?_
    rw [if_neg (by rw [hg];simp)] at hrd
   all_goals
    first|(subst htz hfz)|(subst hfz)
    cases hRc:R with
    | none =>
     rw [hrd,hRc]
     dsimp only
     rw [hRc] at hopt
     have ho2:optV none=.tup [.agg (bytesC zMac),.base (.bool false),.base (.bool false)]:=rfl
     rw [ho2] at hopt
     repeat (refine Wq ?_)
     refine Wd 130 146 (by decide) rfl mixed rfl<|qM rfl<|qM rfl<|Od rfl rfl (Lsi rfl rfl rfl (Ba rfl rfl) Bnd.no (by omega) (by omega) ty24 ty5 (by_drop (l:=B) (k:=fixN k) rfl))<|qF rfl ty87 rfl<|qL rfl ty3 rfl<|qY rfl (hop) fok157 rfl<|qY rfl (hopt) fok156 rfl<|qM rfl<|qX rfl<|qX rfl<|qX rfl<|qF rfl ty87 rfl<|qS rfl ty23 (sp_mac (l:=zMac) (m:=zMac) rfl rfl) rfl<|qF rfl ty87 rfl<|qS rfl ty4 (Sl rfl) rfl<|qA rfl<|Nl ⟨by kernel_rfl,?_⟩
     repeat (refine Wq ?_)
     refine qW 150 167 rfl<|qM rfl<|qO rfl<|qM rfl<|qD rfl rfl rfl<|qD rfl rfl rfl<|qD rfl rfl rfl<|qD rfl rfl rfl<|Ud rfl rfl rfl rfl<|Ud rfl rfl rfl rfl<|qD rfl rfl rfl<|qD rfl rfl rfl<|Ud rfl rfl rfl rfl<|Ud rfl rfl rfl rfl<|Ud rfl rfl rfl rfl<|Ud rfl rfl rfl rfl<|qD rfl rfl rfl<|qT rfl rfl rfl<|Nl<|Wt rfl rfl ?_
     repeat (refine Wq ?_)
     refine qW 171 174 rfl<|Od rfl rfl (Bs rfl ty87 .nil)<|qS rfl ty87 (Sl rfl) rfl<|qA rfl<|Nl<|Wz ⟨.inl rfl,_,mt,(Rc (Ra0 rfl rfl ty87 rfl (Tl rfl)) (Rc (Rt0 rfl) Rv)),aM,?_⟩
     exact ⟨rfl,rfl⟩
    | some r =>
     have hl6:=hR6 r hRc
     rw [hRc] at hopt
     have ho2:optV (some r)=.tup [.agg (bytesC r.2),.base (.bool r.1),.base (.bool true)]:=rfl
     rw [ho2] at hopt
     rw [hRc] at hrd
     dsimp only at hrd
     have hc4:((k == 135)=false∧¬ (k=135∧r.1=true∧eqA p.s ⟨true,0,0⟩=true))∨((k == 135)=true∧r.1=false∧¬ (k=135∧r.1=true∧eqA p.s ⟨true,0,0⟩=true))∨((k == 135)=true∧r.1=true∧eqA p.s ⟨true,0,0⟩=false∧¬ (k=135∧r.1=true∧eqA p.s ⟨true,0,0⟩=true))∨((k == 135)=true∧r.1=true∧eqA p.s ⟨true,0,0⟩=true):=by
      by_cases e1:k=135<;>cases e2:r.1<;>cases e3:eqA p.s ⟨true,0,0⟩<;>simp [e1]
     repeat (refine Wq ?_)
     refine Wd 130 146 (by decide) rfl mixed rfl<|qM rfl<|qM rfl<|Od rfl rfl (Lsi rfl rfl rfl (Ba rfl rfl) Bnd.no (by simp;omega) (by omega) ty24 ty5 (by_drop (l:=B) (k:=fixN k) rfl))<|qF rfl ty87 rfl<|qL rfl ty3 rfl<|qY rfl (hop) fok157 rfl<|Od rfl rfl (C0 (fr:=[]) rfl rfl (hopt) fok156 (.cons rfl (.pure rfl) (.cons rfl (.pure rfl) .nil)) (opt_pure _ _ _))<|qM rfl<|qX rfl<|qX rfl<|qX rfl<|qF rfl ty87 rfl<|On rfl rfl (Sr rfl rfl rfl rfl rfl ty23 (show (bytesC r.2).length=6 from by rw [bytesC_len,hl6]) (by decide) (sp_mac (l:=zMac) (m:=r.2) rfl hl6))<|qF rfl ty87 rfl<|qS rfl ty4 sp_has rfl<|qA rfl<|Nl ⟨by kernel_rfl,?_⟩
     rcases hc4 with ⟨e1,hno⟩|⟨e1,e2,hno⟩|⟨e1,e2,e3,hno⟩|⟨e1,e2,e3⟩
     rotate_right
     ·rw [if_pos ⟨by simpa using e1,e2,e3⟩] at hrd
      rw [hrd]
      repeat (refine Wq ?_)
      refine qW 150 167 rfl<|qM rfl<|qO rfl<|qM rfl<|gF rfl rfl ty87 rfl<|gL rfl rfl ty3 rfl<|gE rfl rfl<|gM rfl rfl<|gF rfl ‹_› ty87 rfl<|gL rfl ‹_› ty4 rfl<|qU rfl rfl rfl (Pt rfl rfl ‹_› rfl)<|gM rfl rfl<|gF rfl ‹_› ty83 rfl<|gG rfl ‹_› ty54 rfl (Tl rfl)<|qU rfl ‹_› rfl (Bs rfl ty54 (.cons rfl rfl rfl rfl (Sl rfl) .nil))<|qU rfl ‹_› rfl (LO.eql_ad p.s ⟨true,0,0⟩ rfl rfl rfl)<|qU rfl rfl rfl (Pt rfl rfl ‹_› rfl)<|qP rfl rfl rfl<|Nl<|Wt rfl ‹_› ?_
      repeat (refine Wq ?_)
      refine qW 171 174 rfl<|Od rfl rfl (Bs rfl ty87 .nil)<|qS rfl ty87 (Sl rfl) rfl<|qA rfl<|Nl<|Wz ⟨.inl rfl,_,mt,(Rc (Ra0 rfl rfl ty87 rfl (Tl rfl)) (Rc (Rt0 rfl) Rv)),aM,?_⟩
      exact ⟨rfl,rfl⟩
     all_goals
      rw [if_neg hno] at hrd
      rw [hrd]
      repeat (refine Wq ?_)
      refine qW 150 167 rfl<|qM rfl<|qO rfl<|qM rfl<|gF rfl rfl ty87 rfl<|gL rfl rfl ty3 rfl<|gE rfl rfl<|gM rfl rfl ?_
      first
       | (refine RW.sd rfl rfl rfl ?_ rfl ?_;(· (first|rfl|assumption)))
       | (refine RW.gd rfl rfl rfl ?_ rfl (LO.fieldAddr rfl rfl ty87 rfl (by decide)) ?_;(· (first|rfl|assumption)))
      first
       | (refine RW.sd rfl rfl rfl ?_ rfl ?_;(· (first|rfl|assumption)))
       | (refine RW.gd rfl rfl rfl ?_ rfl (LO.load rfl rfl rfl rfl ty4 rfl) ?_;(· (first|rfl|assumption)))
      first
       | (refine RW.gd rfl rfl rfl ?_ rfl (LO.pick_t rfl rfl ?_ rfl) ?_;(· (first|rfl|assumption));(· (first|rfl|assumption)))
       | (refine RW.gd rfl rfl rfl ?_ rfl (LO.pick_f rfl rfl ?_ rfl) ?_;(· (first|rfl|assumption));(· (first|rfl|assumption)))
      refine gM rfl rfl ?_
      first
       | (refine RW.sd rfl rfl rfl ?_ rfl ?_;(· (first|rfl|assumption)))
       | (refine RW.gd rfl rfl rfl ?_ rfl (LO.fieldAddr rfl rfl ty83 rfl (by decide)) ?_;(· (first|rfl|assumption)))
      first
       | (refine RW.sd rfl rfl rfl ?_ rfl ?_;(· (first|rfl|assumption)))
       | (refine RW.gd rfl rfl rfl ?_ rfl (LO.load_agg rfl rfl rfl ty54 rfl (Tk.lit rfl)) ?_;(· (first|rfl|assumption)))
      first
       | (refine RW.sd rfl rfl rfl ?_ rfl ?_;(· (first|rfl|assumption)))
       | (refine RW.gd rfl rfl rfl ?_ rfl (LO.build_st rfl ty54 (.cons rfl rfl rfl rfl (Sp.lit rfl) .nil)) ?_;(· (first|rfl|assumption)))
      first
       | (refine RW.sd rfl rfl rfl ?_ rfl ?_;(· (first|rfl|assumption)))
       | (refine RW.gd rfl rfl rfl ?_ rfl (LO.eql_ad p.s ⟨true,0,0⟩ rfl rfl rfl) ?_;(· (first|rfl|assumption)))
      first
       | (refine RW.gd rfl rfl rfl ?_ rfl (LO.pick_t rfl rfl ?_ rfl) ?_;(· (first|rfl|assumption));(· (first|rfl|assumption)))
       | (refine RW.gd rfl rfl rfl ?_ rfl (LO.pick_f rfl rfl ?_ rfl) ?_;(· (first|rfl|assumption));(· (first|rfl|assumption)))
      refine qP rfl rfl rfl<|Nl<|Wo rfl (by first|rfl|assumption)<|Wu ?_
      repeat (refine Wq ?_)
      refine qW 178 181 rfl<|qG rfl ty87 rfl (nb_tk hl6)<|On rfl rfl (Sr rfl rfl rfl rfl rfl ty87 (nb_len hl6) (by decide) (Sp.of_all (nb_len hl6)))<|qA rfl<|Nl<|Wz ⟨.inl rfl,_,mt,(Rc (Ra0 rfl rfl ty87 rfl (nb_tk hl6)) (Rc (Rt0 rfl) Rv)),aM,?_⟩
      exact ⟨rfl,rfl⟩
theorem pkC_pure (p:Pk):(pkC p).all AV.pure1=true:=by
 unfold pkC adC
 rfl
theorem pk_tk (p:Pk):Tk (pkC p) 0 9 (pkC p):=Tk.all (pkC p)
theorem bytesC_1 (x:Int):bytesC [x]=[.base (.int .u8 x)]:=rfl
theorem by_take {l:List Int} {k:Nat} (hk:k≤l.length):Tk (bytesC l) 0 (k * 1) (bytesC (l.take k)):=by
 refine ⟨by rw [bytesC_len,List.length_take];omega,fun j c hj=>?_⟩
 simp only [bytesC,List.map_take,List.getElem?_take] at hj
 split at hj
 ·rw [Nat.zero_add];exact hj
 ·cases hj
theorem by_from {l:List Int} {k m:Nat} (h:l.length=k + m):Tk (bytesC l) (0 + k * 1) (m * 1) (bytesC (l.drop k)):=by
 rw [Nat.zero_add]
 have:=by_drop (l:=l) (k:=k) (n:=k + m) h
 rwa [Nat.add_sub_cancel_left] at this
theorem IsB.set {l:List Int} (h:IsB l) (i:Nat) {v:Int} (hv:0≤v∧v≤255):IsB (l.set i v):=fun x hx=>by
 rcases List.mem_or_eq_of_mem_set hx with h1|h1
 ·exact h x h1
 ·rw [h1];exact hv
theorem emod_nat (v:Int) {n:Nat} (hn:0 < n):∃ k:Nat,v % (n:Int)=(k:Int)∧k < n:=by
 have h0:=Int.emod_nonneg v (show (n:Int)≠0 by omega)
 have h1:=Int.emod_lt_of_pos v (show 0 < (n:Int) by omega)
 exact ⟨(v % (n:Int)).toNat,by omega,by omega⟩
end Go.Proofs.YtlcndmciognneaaGreatDoor
