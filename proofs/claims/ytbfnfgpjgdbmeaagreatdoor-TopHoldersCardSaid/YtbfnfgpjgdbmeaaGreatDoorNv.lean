/-
  What the signed origins permit; the statement's search for a chain.
-/
import Derived.Test.YtbfnfgpjgdbmeaaGreatDoorNu
import Derived.Test.YtbfnfgpjgdbmeaaGreatDoorMab
namespace Go.Proofs.YtbfnfgpjgdbmeaaGreatDoor
open Go.RowKit
set_option maxHeartbeats 2000000 in
theorem payloads_any (cs:List CertR) (ss:List SgR) (as_:List Int) (now:Int) (hcs:∀ z∈cs,CertOk z) (hss:∀ s∈ss,SgOk s) (h0:0 < cs.length) (hn:cs.length≤9) (hm:ss.length≤5) (ha:as_.length≤1000):∃ v H',AFn Tryz.prog 9 0 [.isl (certsC cs) cs.length,.isl (sgsC ss) ss.length,.isl (intsC as_) as_.length,.base (.int .i64 now)] mt v H'∧∃ (t:List Bool) (m:List ObjR),(TrI cs as_ now t∧m.length≤15∧∀ x∈m,∃ s∈ss,x∈s.os∧GoodS cs t now s)∧v=.tup [.isl (objsC m) m.length,.base (.int .i64 0)]∧H'=mt:=by
 refine AFn.ex Tryz.func9 rfl rfl (Nat.le_of_ble_eq_true rfl) ?_
 obtain ⟨_,_,htr,t,hT,rfl,rfl⟩:=trusted_any cs as_ now hcs h0 hn ha
 have d1:decide ((cs.length:Int) > 512)=false:=decide_eq_false (by omega)
 have d2:decide ((ss.length:Int) > 512)=false:=decide_eq_false (by omega)
 refine Wq<|qW 0 2 rfl<|qA rfl<|qA rfl<|Nl<|Wq<|Wq<|qW 6 14 rfl<|qM rfl<|qH rfl ty25<|qGt rfl<|qM rfl<|gM rfl ‹_›<|gH rfl ‹_› ty27<|gGt rfl ‹_›<|qP rfl ‹_› rfl<|Nl<|Wo rfl ‹_›<|Wu<|Wq<|qW 24 29 rfl<|qM rfl<|qM rfl<|qM rfl<|qY rfl (htr) fok26 rfl<|qA rfl<|Nl<|Wq<|qW 33 34 rfl<|qA rfl<|Nl<|W.name 34 (34 + 1) (t:=11) (sz:=6) rfl (by decide) (by decide)<|Wq<|Wq<|qW 38 41 rfl<|qM rfl<|qH rfl ty27<|qM rfl<|Nl<|Wb<|W.rename [(0,34)] 1 (by decide) ?_ ?_ (W.loop_ind (α:=Nat × List ObjR) (fun x=>ss.length - x.1) 1 (fun x=>up (up (up (up (up (up (up mt 0 (some (.isl (certsC cs) cs.length))) 3 (some (.base (.int .i64 now)))) 10 (some (.isl (blC t) t.length))) 11 (some (.osl 0 0 x.2.length 6))) 26 (some (.isl (sgsC ss) ss.length))) 27 (some (.base (.int .i64 (ss.length:Int))))) 28 (some (.base (.int .i64 (x.1:Int))))) (fun x=>up mt 0 (some (objsC x.2))) (fun x=>x.1≤ss.length∧x.2.length≤3 * x.1∧∀ z∈x.2,∃ s∈ss,z∈s.os∧GoodS cs t now s) (0,(([]:List ObjR))) (show 0≤ss.length∧(([]:List ObjR)).length≤3 * 0∧∀ z∈(([]:List ObjR)),∃ s∈ss,z∈s.os∧GoodS cs t now s from ⟨Nat.zero_le _,by simp,fun x h=>absurd h List.not_mem_nil⟩) ?_)
 ·exact aR (aR (aR (aI (aR (aR (aR aM))))))
 ·exact aU (kR rfl) aM
 rintro ⟨k,L⟩ hIA ihA
 try (dsimp only at hIA)
 try dsimp only
 obtain ⟨hk,hL3,hLg⟩:=hIA
 by_cases hc:k < ss.length
 ·have g1:decide ((k:Int) < (ss.length:Int))=true:=decide_eq_true (by omega)
  have hkk:(k:Int) + 1=((k + 1:Nat):Int):=by omega
  have hst:=sg_tk' hc
  have hmem:=List.getElem_mem hc
  obtain ⟨s,hs⟩:∃ s,ss[k]=s:=⟨_,rfl⟩
  rw [hs] at hst hmem
  have hso:=hss s hmem
  obtain ⟨_,_,hex,e,he,rfl,rfl⟩:=explain_any cs t s now hcs hso hT.len hn
  have hz:=objsC_len s.os
  have hol:=hso.ol
  unfold sgC at hex
  refine Wq<|qW 45 46 rfl<|qK rfl<|Nl<|Wq<|Wt rfl ‹_›<|Wu<|Wq<|Wb<|Wq<|qW 50 54 rfl<|qJ rfl rfl ty27 ty42 (by omega)<|Od rfl rfl (Lg rfl rfl ty42 rfl hst)<|qB rfl ty42<|qS rfl ty42 (Sl rfl) rfl<|Nl<|Wq<|qW 58 64 rfl<|qM rfl<|qM rfl<|qG rfl ty42 rfl (Tl rfl)<|qM rfl<|qY rfl (hex) fok27 rfl<|qE rfl<|Nl ?_
  cases heq:(e == 0) with
  | true =>
   have hg:=he (by simpa using heq)
   have hLg2:∀ z∈L++s.os,∃ s∈ss,z∈s.os∧GoodS cs t now s:=fun z hz=>by
    rcases List.mem_append.1 hz with h|h
    ·exact hLg z h
    ·exact ⟨s,hmem,h,hg⟩
   refine Wt rfl rfl<|qW 68 73 rfl<|qM rfl<|qF rfl ty42 rfl<|qL rfl ty30 rfl<|Od rfl rfl (Lap rfl rfl (Ssi rfl rfl hz) rfl (objs_all rfl) ty30 ty30 ty40 (by decide) (by omega) (by omega) (by decide))<|qA rfl<|Nl ?_
   rw [← objsC_app,show L.length + s.os.length=(L++s.os).length from by simp]
   refine qW 77 79 rfl<|qZ rfl (iW _ (by omega))<|qM rfl<|Nl ?_
   rw [hkk]
   refine WL.rename [(0,71)] 1 (by decide) ?_ ?_ (ihA ((k + 1),(L++s.os)) (show ss.length - (k + 1) < ss.length - k from by omega) (show (k + 1)≤ss.length∧(L++s.os).length≤3 * (k + 1)∧∀ z∈(L++s.os),∃ s∈ss,z∈s.os∧GoodS cs t now s from ⟨by omega,by simp;omega,hLg2⟩))
   ·exact aR (aR (aR (aI (aR (aR (aR aM))))))
   ·exact aU (kP rfl (objsC_pure _)) aM
  | false =>
   refine Wo rfl rfl<|Wu<|qW 77 79 rfl<|qZ rfl (iW _ (by omega))<|qM rfl<|Nl ?_
   rw [hkk]
   refine WL.rename [(0,0)] 1 (by decide) ?_ ?_ (ihA ((k + 1),L) (show ss.length - (k + 1) < ss.length - k from by omega) (show (k + 1)≤ss.length∧L.length≤3 * (k + 1)∧∀ z∈L,∃ s∈ss,z∈s.os∧GoodS cs t now s from ⟨by omega,by omega,hLg⟩))
   ·exact aR (aR (aR (aI (aR (aR (aR aM))))))
   ·exact aU (kP rfl (objsC_pure _)) aM
 ·have g1:decide ((k:Int) < (ss.length:Int))=false:=decide_eq_false (by omega)
  obtain ⟨m,⟨hme,hml⟩,hor⟩:=ordered15 L (by omega)
  have g2:decide ((m.length:Int) > 512)=false:=decide_eq_false (by omega)
  clear ihA
  refine Wq<|qW 45 46 rfl<|qK rfl<|Nl<|Wq<|Wo rfl ‹_›<|Wx<|Wy (t:=11) rfl rfl (objs_all rfl) (objsC_pure _)<|Wq<|Wq<|qW 83 86 rfl<|qM rfl<|qY rfl (hor) fok28 rfl<|qA rfl<|Nl<|Wq<|qW 90 93 rfl<|qM rfl<|qH rfl ty30<|qGt rfl<|Nl<|Wo rfl ‹_›<|Wu<|Wq<|qW 103 106 rfl<|qM rfl<|qA rfl<|qA rfl<|Nl<|Wz ⟨.inl rfl,_,mt,(Rc (Rt0 rfl) (Rc (Rt0 rfl) Rv)),aM,?_⟩
  exact ⟨t,m,⟨hT,by omega,fun x hx=>hLg x ((hme x).1 hx)⟩,rfl,rfl⟩
theorem ancC_any (as_:List Int) (c:CertR):ancC as_ c=as_.any fun a=>c.key == a && c.iss == a:=rfl
theorem int_at {l:List Int} {k:Nat} (h:k < l.length):(intsC l)[k * 1]?=some (.base (.int .i64 l[k])):=by
 rw [Nat.mul_one];simp [intsC,h]
set_option maxHeartbeats 4000000 in
theorem chained_any (cs:List CertR) (as_:List Int) (now:Int) (hcs:∀ z∈cs,CertOk z) (hn:cs.length≤9) (ha:as_.length≤1000):∀ (f:Nat) (c:CertR) (d:Nat),d < f→d≤16→CertOk c→AFn Tryz.prog 11 0 [.isl (certsC cs) cs.length,.isl (intsC as_) as_.length,.agg (certC c),.base (.int .i64 now),.base (.int .i64 (d:Int))] mt (.base (.bool (chB cs as_ now f c d))) mt:=by
 intro f
 induction f with
 | zero=>intro c d h;omega
 | succ f ih =>
  intro c d hdf hd16 hco
  refine AFn.eq Tryz.func11 rfl rfl (Nat.le_of_ble_eq_true rfl) ?_
  have hB:chB cs as_ now (f + 1) c d=(d != 0 && curC now c && (ancC as_ c || cs.any fun x=>c.iss != c.key && x.key == c.iss && (x.iss == x.key || decide (1 < d)) && rcD x.r c.r && chB cs as_ now f x (min (d - 1) 6))):=rfl
  rw [hB]
  by_cases hd0:d=0
  ·have g0:((d:Int) == 0)=true:=by simp [hd0]
   have hres:(d != 0)=false:=by simp [hd0]
   rw [hres]
   refine Wq<|qW 0 2 rfl<|qC rfl<|qA rfl<|Nl<|Wq<|Wq<|qW 6 20 rfl<|qM rfl<|qE rfl<|qM rfl<|qD rfl ‹_› rfl<|qD rfl ‹_› rfl<|qD rfl ‹_› rfl<|qD rfl ‹_› rfl<|qT rfl ‹_› rfl<|qM rfl<|qD rfl rfl rfl<|qD rfl rfl rfl<|qD rfl rfl rfl<|qD rfl rfl rfl<|qT rfl rfl rfl<|Nl<|Wt rfl rfl<|Wq<|qW 24 25 rfl<|qA rfl<|Nl<|Wz ⟨.inl rfl,_,mt,(Rc (Rt0 rfl) Rv),aM,?_⟩
   exact ⟨rfl,rfl⟩
  have g0:((d:Int) == 0)=false:=by simp;omega
  have hres:(d != 0)=true:=by simp [hd0]
  rw [hres,Bool.true_and]
  by_cases hf:c.fr > now
  ·have g1:decide (c.fr > now)=true:=decide_eq_true hf
   have hcur:curC now c=false:=by unfold curC;rw [decide_eq_false (by omega:¬ c.fr≤now)];rfl
   rw [hcur]
   refine Wq<|qW 0 2 rfl<|qC rfl<|qA rfl<|Nl<|Wq<|Wq<|qW 6 20 rfl<|qM rfl<|qE rfl<|qM rfl<|gF rfl ‹_› ty48 rfl<|gL rfl ‹_› ty3 rfl<|gM rfl ‹_›<|gGt rfl ‹_›<|qP rfl ‹_› rfl<|qM rfl<|qD rfl ‹_› rfl<|qD rfl ‹_› rfl<|qD rfl ‹_› rfl<|qD rfl ‹_› rfl<|qT rfl ‹_› rfl<|Nl<|Wt rfl rfl<|Wq<|qW 24 25 rfl<|qA rfl<|Nl<|Wz ⟨.inl rfl,_,mt,(Rc (Rt0 rfl) Rv),aM,?_⟩
   exact ⟨rfl,rfl⟩
  have g1:decide (c.fr > now)=false:=decide_eq_false hf
  by_cases hu:c.un < now
  ·have g2:decide (c.un < now)=true:=decide_eq_true hu
   have hcur:curC now c=false:=by unfold curC;rw [decide_eq_false (by omega:¬ now≤c.un),Bool.and_false]
   rw [hcur]
   refine Wq<|qW 0 2 rfl<|qC rfl<|qA rfl<|Nl<|Wq<|Wq<|qW 6 20 rfl<|qM rfl<|qE rfl<|qM rfl<|gF rfl ‹_› ty48 rfl<|gL rfl ‹_› ty3 rfl<|gM rfl ‹_›<|gGt rfl ‹_›<|qP rfl ‹_› rfl<|qM rfl<|gF rfl ‹_› ty48 rfl<|gL rfl ‹_› ty3 rfl<|gM rfl ‹_›<|gK rfl ‹_›<|qP rfl ‹_› rfl<|Nl<|Wt rfl ‹_›<|Wq<|qW 24 25 rfl<|qA rfl<|Nl<|Wz ⟨.inl rfl,_,mt,(Rc (Rt0 rfl) Rv),aM,?_⟩
   exact ⟨rfl,rfl⟩
  have g2:decide (c.un < now)=false:=decide_eq_false hu
  have hcur:curC now c=true:=by unfold curC;rw [decide_eq_true (by omega:c.fr≤now),decide_eq_true (by omega:now≤c.un)];rfl
  rw [hcur,Bool.true_and,ancC_any]
  have hmin:∀ x:CertR,CertOk x→AFn Tryz.prog 11 0 [.isl (certsC cs) cs.length,.isl (intsC as_) as_.length,.agg (certC x),.base (.int .i64 now),.base (.int .i64 (if (6:Int) < (d:Int) - 1 then 6 else (d:Int) - 1))] mt (.base (.bool (chB cs as_ now f x (min (d - 1) 6)))) mt:=fun x hx=>by
   have h:=ih x (min (d - 1) 6) (by omega) (by omega) hx
   have e:(if (6:Int) < (d:Int) - 1 then 6 else (d:Int) - 1)=((min (d - 1) 6:Nat):Int):=by split<;>omega
   rw [e];exact h
  obtain ⟨G,hG⟩:∃ G:CertR→Bool,(fun x=>c.iss != c.key && x.key == c.iss && (x.iss == x.key || decide (1 < d)) && rcD x.r c.r && chB cs as_ now f x (min (d - 1) 6))=G:=⟨_,rfl⟩
  rw [hG]
  have hGx:∀ x,G x=(c.iss != c.key && x.key == c.iss && (x.iss == x.key || decide (1 < d)) && rcD x.r c.r && chB cs as_ now f x (min (d - 1) 6)):=fun x=>by rw [← hG]
  obtain ⟨Q,hQ⟩:∃ Q:Int→Bool,(fun a=>c.key == a && c.iss == a)=Q:=⟨_,rfl⟩
  rw [hQ]
  have hQx:∀ a,Q a=(c.key == a && c.iss == a):=fun a=>by rw [← hQ]
  refine Wq<|qW 0 2 rfl<|qC rfl<|qA rfl<|Nl<|Wq<|Wq<|qW 6 20 rfl<|qM rfl<|qE rfl<|qM rfl<|gF rfl ‹_› ty48 rfl<|gL rfl ‹_› ty3 rfl<|gM rfl ‹_›<|gGt rfl ‹_›<|qP rfl ‹_› rfl<|qM rfl<|gF rfl ‹_› ty48 rfl<|gL rfl ‹_› ty3 rfl<|gM rfl ‹_›<|gK rfl ‹_›<|qP rfl ‹_› rfl<|Nl<|Wo rfl ‹_›<|Wu<|Wq<|Wq<|qW 29 32 rfl<|qM rfl<|qH rfl ty22<|qM rfl<|Nl<|Wb<|W.rename [(0,0)] 1 (by decide) ?_ ?_ (W.loop_ind (α:=Nat) (fun x=>as_.length - x) 1 (fun x=>up (up (up (up (up (up (up (up mt 0 (some (.isl (certsC cs) cs.length))) 1 (some (.isl (intsC as_) as_.length))) 3 (some (.base (.int .i64 now)))) 4 (some (.base (.int .i64 (d:Int))))) 7 (some (.own 0 0))) 29 (some (.isl (intsC as_) as_.length))) 30 (some (.base (.int .i64 (as_.length:Int))))) 31 (some (.base (.int .i64 (x:Int))))) (fun x=>up mt 0 (some (certC c))) (fun x=>x≤as_.length∧(as_.take x).any Q=false) 0 (show 0≤as_.length∧(as_.take 0).any Q=false from ⟨Nat.zero_le _,by simp⟩) ?_)
  ·exact aR (aR (aR (aI (aR (aR (aR (aR aM)))))))
  ·exact aU (kR rfl) aM
  rintro k hIA ihA
  try (dsimp only at hIA)
  try dsimp only
  obtain ⟨hk,hI⟩:=hIA
  by_cases hc:k < as_.length
  ·have g3:decide ((k:Int) < (as_.length:Int))=true:=decide_eq_true (by omega)
   have hkk:(k:Int) + 1=((k + 1:Nat):Int):=by omega
   have hat:=int_at hc
   have hst:=any_take hc hI
   have hfd:=any_found (f:=Q) hc
   obtain ⟨a,hae⟩:∃ a,as_[k]=a:=⟨_,rfl⟩
   rw [hae] at hat hst hfd
   have hQa:=hQx a
   refine Wq<|qW 36 37 rfl<|qK rfl<|Nl<|Wq<|Wt rfl ‹_›<|Wu<|Wq<|Wb<|Wq<|qW 41 44 rfl<|qJ rfl rfl ty22 ty3 (by omega)<|Od rfl rfl (Li rfl rfl hat ty3 rfl)<|qA rfl<|Nl ?_
   cases q1:(c.key == a) with
   | false =>
    have hs2:(as_.take (k + 1)).any Q=false:=by rw [hst,hQa,q1];rfl
    refine Wq<|qW 48 58 rfl<|qF rfl ty48 rfl<|qL rfl ty3 rfl<|qM rfl<|qE rfl<|qM rfl<|qD rfl ‹_› rfl<|qD rfl ‹_› rfl<|qD rfl ‹_› rfl<|qD rfl ‹_› rfl<|qP rfl ‹_› rfl<|Nl<|Wo rfl rfl<|Wu<|qW 67 69 rfl<|qZ rfl (iW _ (by omega))<|qM rfl<|Nl ?_
    rw [hkk]
    refine WL.rename [(0,0)] 1 (by decide) ?_ ?_ (ihA (k + 1) (show as_.length - (k + 1) < as_.length - k from by omega) (show (k + 1)≤as_.length∧(as_.take (k + 1)).any Q=false from ⟨by omega,hs2⟩))
    ·exact aR (aR (aR (aI (aR (aR (aR (aR aM)))))))
    ·exact aU (kR rfl) aM
   | true =>
    cases q2:(c.iss == a) with
    | false =>
     have hs2:(as_.take (k + 1)).any Q=false:=by rw [hst,hQa,q1,q2];rfl
     refine Wq<|qW 48 58 rfl<|qF rfl ty48 rfl<|qL rfl ty3 rfl<|qM rfl<|qE rfl<|qM rfl<|gF rfl ‹_› ty48 rfl<|gL rfl ‹_› ty3 rfl<|gM rfl ‹_›<|gE rfl ‹_›<|qT rfl ‹_› rfl<|Nl<|Wo rfl ‹_›<|Wu<|qW 67 69 rfl<|qZ rfl (iW _ (by omega))<|qM rfl<|Nl ?_
     rw [hkk]
     refine WL.rename [(0,0)] 1 (by decide) ?_ ?_ (ihA (k + 1) (show as_.length - (k + 1) < as_.length - k from by omega) (show (k + 1)≤as_.length∧(as_.take (k + 1)).any Q=false from ⟨by omega,hs2⟩))
     ·exact aR (aR (aR (aI (aR (aR (aR (aR aM)))))))
     ·exact aU (kR rfl) aM
    | true =>
     have hs2:=hfd (by rw [hQa,q1,q2];rfl)
     clear ihA
     refine Wq<|qW 48 58 rfl<|qF rfl ty48 rfl<|qL rfl ty3 rfl<|qM rfl<|qE rfl<|qM rfl<|gF rfl ‹_› ty48 rfl<|gL rfl ‹_› ty3 rfl<|gM rfl ‹_›<|gE rfl ‹_›<|qT rfl ‹_› rfl<|Nl<|Wt rfl ‹_›<|Wq<|qW 62 63 rfl<|qA rfl<|Nl<|Wz ⟨.inl rfl,_,mt,(Rc (Rt0 rfl) Rv),aM,?_⟩
     exact ⟨by rw [hs2];rfl,rfl⟩
  ·have g3:decide ((k:Int) < (as_.length:Int))=false:=decide_eq_false (by omega)
   rw [List.take_of_length_le (by omega)] at hI
   rw [hI,Bool.false_or]
   clear ihA
   refine Wq<|qW 36 37 rfl<|qK rfl<|Nl<|Wq<|Wo rfl ‹_›<|Wx<|Wq<|Wq<|qW 73 76 rfl<|qM rfl<|qH rfl ty25<|qM rfl<|Nl<|Wb<|W.rename [(0,0)] 1 (by decide) ?_ ?_ (W.loop_ind (α:=Nat) (fun x=>cs.length - x) 1 (fun x=>up (up (up (up (up (up (up (up mt 0 (some (.isl (certsC cs) cs.length))) 1 (some (.isl (intsC as_) as_.length))) 3 (some (.base (.int .i64 now)))) 4 (some (.base (.int .i64 (d:Int))))) 7 (some (.own 0 0))) 46 (some (.isl (certsC cs) cs.length))) 47 (some (.base (.int .i64 (cs.length:Int))))) 48 (some (.base (.int .i64 (x:Int))))) (fun x=>up mt 0 (some (certC c))) (fun x=>x≤cs.length∧(cs.take x).any G=false) 0 (show 0≤cs.length∧(cs.take 0).any G=false from ⟨Nat.zero_le _,by simp⟩) ?_)
   ·exact aR (aR (aR (aI (aR (aR (aR (aR aM)))))))
   ·exact aU (kR rfl) aM
   rintro k hIB ihB
   try (dsimp only at hIB)
   try dsimp only
   obtain ⟨hk2,hJ⟩:=hIB
   by_cases hc:k < cs.length
   ·have g3:decide ((k:Int) < (cs.length:Int))=true:=decide_eq_true (by omega)
    have hkk:(k:Int) + 1=((k + 1:Nat):Int):=by omega
    have hct:=cert_tk' hc
    have hst:=any_take hc hJ
    have hfd:=any_found (f:=G) hc
    have hxo:=hcs cs[k] (List.getElem_mem hc)
    obtain ⟨x,hx⟩:∃ x,cs[k]=x:=⟨_,rfl⟩
    rw [hx] at hct hst hfd hxo
    have hcv:=rcovers_any x.r c.r hxo.r hco.r
    have hch:=hmin x hxo
    have hG2:=hGx x
    unfold rscC at hcv
    refine Wq<|qW 80 81 rfl<|qK rfl<|Nl<|Wq<|Wt rfl ‹_›<|Wu<|Wq<|Wb<|Wq<|qW 85 89 rfl<|qJ rfl rfl ty25 ty48 (by omega)<|Od rfl rfl (Lg rfl rfl ty48 rfl hct)<|qB rfl ty48<|qS rfl ty48 (Sl rfl) rfl<|Nl ?_
    cases q1:(c.iss != c.key) with
    | false =>
     have hs2:(cs.take (k + 1)).any G=false:=by rw [hst,hG2,q1];rfl
     refine Wq<|qW 93 133 rfl<|qF rfl ty48 rfl<|qL rfl ty3 rfl<|qF rfl ty48 rfl<|qL rfl ty3 rfl<|qN rfl<|qM rfl<|qD rfl ‹_› rfl<|qD rfl ‹_› rfl<|qD rfl ‹_› rfl<|qD rfl ‹_› rfl<|qD rfl ‹_› rfl<|qP rfl ‹_› rfl<|qM rfl<|qD rfl rfl rfl<|qD rfl rfl rfl<|qD rfl rfl rfl<|qD rfl rfl rfl<|qD rfl rfl rfl<|qD rfl rfl rfl<|Ud rfl rfl rfl rfl<|Ud rfl rfl rfl rfl<|qD rfl rfl rfl<|qP rfl rfl rfl<|qM rfl<|qD rfl rfl rfl<|qD rfl rfl rfl<|qD rfl rfl rfl<|qD rfl rfl rfl<|qD rfl rfl rfl<|qP rfl rfl rfl<|qM rfl<|qD rfl rfl rfl<|qD rfl rfl rfl<|qD rfl rfl rfl<|qD rfl rfl rfl<|qD rfl rfl rfl<|qD rfl rfl rfl<|qD rfl rfl rfl<|qD rfl rfl rfl<|qP rfl rfl rfl<|Nl<|Wo rfl rfl<|Wu<|qW 142 144 rfl<|qZ rfl (iW _ (by omega))<|qM rfl<|Nl ?_
     rw [hkk]
     refine WL.rename [(0,0)] 1 (by decide) ?_ ?_ (ihB (k + 1) (show cs.length - (k + 1) < cs.length - k from by omega) (show (k + 1)≤cs.length∧(cs.take (k + 1)).any G=false from ⟨by omega,hs2⟩))
     ·exact aR (aR (aR (aI (aR (aR (aR (aR aM)))))))
     ·exact aU (kR rfl) aM
    | true =>
     cases q2:(x.key == c.iss) with
     | false =>
      have hs2:(cs.take (k + 1)).any G=false:=by rw [hst,hG2,q1,q2];rfl
      refine Wq<|qW 93 133 rfl<|qF rfl ty48 rfl<|qL rfl ty3 rfl<|qF rfl ty48 rfl<|qL rfl ty3 rfl<|qN rfl<|qM rfl<|gF rfl ‹_› ty48 rfl<|gL rfl ‹_› ty3 rfl<|gF rfl ‹_› ty48 rfl<|gL rfl ‹_› ty3 rfl<|gE rfl ‹_›<|qT rfl ‹_› rfl<|qM rfl<|qD rfl ‹_› rfl<|qD rfl ‹_› rfl<|qD rfl ‹_› rfl<|qD rfl ‹_› rfl<|qD rfl ‹_› rfl<|qD rfl ‹_› rfl<|Ud rfl rfl rfl rfl<|Ud rfl rfl rfl rfl<|qD rfl ‹_› rfl<|qP rfl ‹_› rfl<|qM rfl<|qD rfl rfl rfl<|qD rfl rfl rfl<|qD rfl rfl rfl<|qD rfl rfl rfl<|qD rfl rfl rfl<|qP rfl rfl rfl<|qM rfl<|qD rfl rfl rfl<|qD rfl rfl rfl<|qD rfl rfl rfl<|qD rfl rfl rfl<|qD rfl rfl rfl<|qD rfl rfl rfl<|qD rfl rfl rfl<|qD rfl rfl rfl<|qP rfl rfl rfl<|Nl<|Wo rfl rfl<|Wu<|qW 142 144 rfl<|qZ rfl (iW _ (by omega))<|qM rfl<|Nl ?_
      rw [hkk]
      refine WL.rename [(0,0)] 1 (by decide) ?_ ?_ (ihB (k + 1) (show cs.length - (k + 1) < cs.length - k from by omega) (show (k + 1)≤cs.length∧(cs.take (k + 1)).any G=false from ⟨by omega,hs2⟩))
      ·exact aR (aR (aR (aI (aR (aR (aR (aR aM)))))))
      ·exact aU (kR rfl) aM
     | true =>
      rcases (show ((x.iss == x.key)=true)∨((x.iss == x.key)=false∧decide ((d:Int) > 1)=true∧decide (1 < d)=true)∨((x.iss == x.key)=false∧decide ((d:Int) > 1)=false∧decide (1 < d)=false) by
       cases (x.iss == x.key) with
       | true=>exact .inl rfl
       | false =>
        by_cases h1:1 < d
        ·exact .inr (.inl ⟨rfl,decide_eq_true (by omega),decide_eq_true h1⟩)
        ·exact .inr (.inr ⟨rfl,decide_eq_false (by omega),decide_eq_false h1⟩)) with q3|⟨q3,q4,q5⟩|⟨q3,q4,q5⟩
      rotate_left 2
      ·have hs2:(cs.take (k + 1)).any G=false:=by rw [hst,hG2,q1,q2,q3,q5];rfl
       refine Wq<|qW 93 133 rfl<|qF rfl ty48 rfl<|qL rfl ty3 rfl<|qF rfl ty48 rfl<|qL rfl ty3 rfl<|qN rfl<|qM rfl<|gF rfl ‹_› ty48 rfl<|gL rfl ‹_› ty3 rfl<|gF rfl ‹_› ty48 rfl<|gL rfl ‹_› ty3 rfl<|gE rfl ‹_›<|qT rfl ‹_› rfl<|qM rfl<|gF rfl ‹_› ty48 rfl<|gL rfl ‹_› ty3 rfl<|gF rfl ‹_› ty48 rfl<|gL rfl ‹_› ty3 rfl<|gE rfl ‹_›<|gM rfl ‹_›<|gM rfl ‹_›<|gGt rfl ‹_›<|qU rfl ‹_› rfl (Pf0 rfl rfl ‹_› rfl)<|qT rfl ‹_› rfl<|qM rfl<|qD rfl ‹_› rfl<|qD rfl ‹_› rfl<|qD rfl ‹_› rfl<|qD rfl ‹_› rfl<|qD rfl ‹_› rfl<|qP rfl ‹_› rfl<|qM rfl<|qD rfl rfl rfl<|qD rfl rfl rfl<|qD rfl rfl rfl<|qD rfl rfl rfl<|qD rfl rfl rfl<|qD rfl rfl rfl<|qD rfl rfl rfl<|qD rfl rfl rfl<|qP rfl rfl rfl<|Nl<|Wo rfl rfl<|Wu<|qW 142 144 rfl<|qZ rfl (iW _ (by omega))<|qM rfl<|Nl ?_
       rw [hkk]
       refine WL.rename [(0,0)] 1 (by decide) ?_ ?_ (ihB (k + 1) (show cs.length - (k + 1) < cs.length - k from by omega) (show (k + 1)≤cs.length∧(cs.take (k + 1)).any G=false from ⟨by omega,hs2⟩))
       ·exact aR (aR (aR (aI (aR (aR (aR (aR aM)))))))
       ·exact aU (kR rfl) aM
      all_goals
       cases q6:rcD x.r c.r with
       | false =>
        have hs2:(cs.take (k + 1)).any G=false:=by rw [hst,hG2,q1,q2,q6,Bool.and_false];rfl
        rw [q6] at hcv
        repeat (refine Wq ?_)
        refine qW 93 133 rfl<|qF rfl ty48 rfl<|qL rfl ty3 rfl<|qF rfl ty48 rfl<|qL rfl ty3 rfl<|qN rfl<|qM rfl<|gF rfl ‹_› ty48 rfl<|gL rfl ‹_› ty3 rfl<|gF rfl ‹_› ty48 rfl<|gL rfl ‹_› ty3 rfl<|gE rfl ‹_›<|qT rfl ‹_› rfl<|qM rfl<|gF rfl ‹_› ty48 rfl<|gL rfl ‹_› ty3 rfl<|gF rfl ‹_› ty48 rfl<|gL rfl ‹_› ty3 rfl<|gE rfl ‹_›<|gM rfl ‹_› ?_
        first
         | (refine RW.sd rfl rfl rfl ?_ rfl ?_;(· (first|rfl|assumption)))
         | (refine RW.gd rfl rfl rfl ?_ rfl (LO.move rfl rfl) ?_;(· (first|rfl|assumption)))
        first
         | (refine RW.sd rfl rfl rfl ?_ rfl ?_;(· (first|rfl|assumption)))
         | (refine RW.gd rfl rfl rfl ?_ rfl (LO.gtr rfl rfl rfl) ?_;(· (first|rfl|assumption)))
        first
         | (refine RW.gd rfl rfl rfl ?_ rfl (LO.pick_t rfl rfl ?_ rfl) ?_;(· (first|rfl|assumption));(· (first|rfl|assumption)))
         | (refine RW.gd rfl rfl rfl ?_ rfl (LO.pick_f rfl rfl ?_ rfl) ?_;(· (first|rfl|assumption));(· (first|rfl|assumption)))
        refine qT rfl ‹_› rfl<|qM rfl<|gF rfl (by first|rfl|assumption) ty48 rfl<|gG rfl (by first|rfl|assumption) ty46 rfl (Tl rfl)<|gF rfl (by first|rfl|assumption) ty48 rfl<|gG rfl (by first|rfl|assumption) ty46 rfl (Tl rfl)<|gY rfl (by first|rfl|assumption) (hcv) fok31 rfl<|qT rfl (by first|rfl|assumption) rfl<|qM rfl<|qD rfl rfl rfl<|qD rfl rfl rfl<|qD rfl rfl rfl<|qD rfl rfl rfl<|qD rfl rfl rfl<|qD rfl rfl rfl<|qD rfl rfl rfl<|qD rfl rfl rfl<|qP rfl rfl rfl<|Nl<|Wo rfl rfl<|Wu<|qW 142 144 rfl<|qZ rfl (iW _ (by omega))<|qM rfl<|Nl ?_
        rw [hkk]
        refine WL.rename [(0,0)] 1 (by decide) ?_ ?_ (ihB (k + 1) (show cs.length - (k + 1) < cs.length - k from by omega) (show (k + 1)≤cs.length∧(cs.take (k + 1)).any G=false from ⟨by omega,hs2⟩))
        ·exact aR (aR (aR (aI (aR (aR (aR (aR aM)))))))
        ·exact aU (kR rfl) aM
       | true =>
        rw [q6] at hcv
        cases q7:chB cs as_ now f x (min (d - 1) 6) with
        | false =>
         have hs2:(cs.take (k + 1)).any G=false:=by rw [hst,hG2,q7,Bool.and_false]
         rw [q7] at hch
         repeat (refine Wq ?_)
         refine qW 93 133 rfl<|qF rfl ty48 rfl<|qL rfl ty3 rfl<|qF rfl ty48 rfl<|qL rfl ty3 rfl<|qN rfl<|qM rfl<|gF rfl ‹_› ty48 rfl<|gL rfl ‹_› ty3 rfl<|gF rfl ‹_› ty48 rfl<|gL rfl ‹_› ty3 rfl<|gE rfl ‹_›<|qT rfl ‹_› rfl<|qM rfl<|gF rfl ‹_› ty48 rfl<|gL rfl ‹_› ty3 rfl<|gF rfl ‹_› ty48 rfl<|gL rfl ‹_› ty3 rfl<|gE rfl ‹_›<|gM rfl ‹_› ?_
         first
          | (refine RW.sd rfl rfl rfl ?_ rfl ?_;(· (first|rfl|assumption)))
          | (refine RW.gd rfl rfl rfl ?_ rfl (LO.move rfl rfl) ?_;(· (first|rfl|assumption)))
         first
          | (refine RW.sd rfl rfl rfl ?_ rfl ?_;(· (first|rfl|assumption)))
          | (refine RW.gd rfl rfl rfl ?_ rfl (LO.gtr rfl rfl rfl) ?_;(· (first|rfl|assumption)))
         first
          | (refine RW.gd rfl rfl rfl ?_ rfl (LO.pick_t rfl rfl ?_ rfl) ?_;(· (first|rfl|assumption));(· (first|rfl|assumption)))
          | (refine RW.gd rfl rfl rfl ?_ rfl (LO.pick_f rfl rfl ?_ rfl) ?_;(· (first|rfl|assumption));(· (first|rfl|assumption)))
         refine qT rfl ‹_› rfl<|qM rfl<|gF rfl (by first|rfl|assumption) ty48 rfl<|gG rfl (by first|rfl|assumption) ty46 rfl (Tl rfl)<|gF rfl (by first|rfl|assumption) ty48 rfl<|gG rfl (by first|rfl|assumption) ty46 rfl (Tl rfl)<|gY rfl (by first|rfl|assumption) (hcv) fok31 rfl<|qT rfl (by first|rfl|assumption) rfl<|qM rfl<|gM rfl rfl<|gM rfl rfl<|gG rfl rfl ty48 rfl (Tl rfl)<|gM rfl rfl<|gM rfl rfl<|qU rfl rfl rfl (LO.sub_in rfl rfl rfl (iW _ (by omega)))<|qU rfl rfl rfl (LO.min rfl rfl rfl)<|qU rfl rfl rfl (C0 (fr:=[]) rfl rfl (hch) fok11 (qArgs rfl rfl) rfl)<|qT rfl rfl rfl<|Nl<|Wo rfl rfl<|Wu<|qW 142 144 rfl<|qZ rfl (iW _ (by omega))<|qM rfl<|Nl ?_
         rw [hkk]
         refine WL.rename [(0,0)] 1 (by decide) ?_ ?_ (ihB (k + 1) (show cs.length - (k + 1) < cs.length - k from by omega) (show (k + 1)≤cs.length∧(cs.take (k + 1)).any G=false from ⟨by omega,hs2⟩))
         ·exact aR (aR (aR (aI (aR (aR (aR (aR aM)))))))
         ·exact aU (kR rfl) aM
        | true =>
         have hs2:=hfd (by rw [hG2,q1,q2,q6,q7,q3];first|rfl|(rw [q5];rfl))
         rw [q7] at hch
         clear ihB
         repeat (refine Wq ?_)
         refine qW 93 133 rfl<|qF rfl ty48 rfl<|qL rfl ty3 rfl<|qF rfl ty48 rfl<|qL rfl ty3 rfl<|qN rfl<|qM rfl<|gF rfl ‹_› ty48 rfl<|gL rfl ‹_› ty3 rfl<|gF rfl ‹_› ty48 rfl<|gL rfl ‹_› ty3 rfl<|gE rfl ‹_›<|qT rfl ‹_› rfl<|qM rfl<|gF rfl ‹_› ty48 rfl<|gL rfl ‹_› ty3 rfl<|gF rfl ‹_› ty48 rfl<|gL rfl ‹_› ty3 rfl<|gE rfl ‹_›<|gM rfl ‹_› ?_
         first
          | (refine RW.sd rfl rfl rfl ?_ rfl ?_;(· (first|rfl|assumption)))
          | (refine RW.gd rfl rfl rfl ?_ rfl (LO.move rfl rfl) ?_;(· (first|rfl|assumption)))
         first
          | (refine RW.sd rfl rfl rfl ?_ rfl ?_;(· (first|rfl|assumption)))
          | (refine RW.gd rfl rfl rfl ?_ rfl (LO.gtr rfl rfl rfl) ?_;(· (first|rfl|assumption)))
         first
          | (refine RW.gd rfl rfl rfl ?_ rfl (LO.pick_t rfl rfl ?_ rfl) ?_;(· (first|rfl|assumption));(· (first|rfl|assumption)))
          | (refine RW.gd rfl rfl rfl ?_ rfl (LO.pick_f rfl rfl ?_ rfl) ?_;(· (first|rfl|assumption));(· (first|rfl|assumption)))
         refine qT rfl ‹_› rfl<|qM rfl<|gF rfl (by first|rfl|assumption) ty48 rfl<|gG rfl (by first|rfl|assumption) ty46 rfl (Tl rfl)<|gF rfl (by first|rfl|assumption) ty48 rfl<|gG rfl (by first|rfl|assumption) ty46 rfl (Tl rfl)<|gY rfl (by first|rfl|assumption) (hcv) fok31 rfl<|qT rfl (by first|rfl|assumption) rfl<|qM rfl<|gM rfl rfl<|gM rfl rfl<|gG rfl rfl ty48 rfl (Tl rfl)<|gM rfl rfl<|gM rfl rfl<|qU rfl rfl rfl (LO.sub_in rfl rfl rfl (iW _ (by omega)))<|qU rfl rfl rfl (LO.min rfl rfl rfl)<|qU rfl rfl rfl (C0 (fr:=[]) rfl rfl (hch) fok11 (qArgs rfl rfl) rfl)<|qT rfl rfl rfl<|Nl<|Wt rfl rfl ?_
         repeat (refine Wq ?_)
         refine qW 137 138 rfl<|qA rfl<|Nl<|Wz ⟨.inl rfl,_,mt,(Rc (Rt0 rfl) Rv),aM,?_⟩
         exact ⟨by rw [hs2];rfl,rfl⟩
   ·have g3:decide ((k:Int) < (cs.length:Int))=false:=decide_eq_false (by omega)
    rw [List.take_of_length_le (by omega)] at hJ
    clear ihB
    refine Wq<|qW 80 81 rfl<|qK rfl<|Nl<|Wq<|Wo rfl ‹_›<|Wx<|Wq<|qW 148 149 rfl<|qA rfl<|Nl<|Wz ⟨.inl rfl,_,mt,(Rc (Rt0 rfl) Rv),aM,?_⟩
    exact ⟨by rw [hJ];rfl,rfl⟩
end Go.Proofs.YtbfnfgpjgdbmeaaGreatDoor
