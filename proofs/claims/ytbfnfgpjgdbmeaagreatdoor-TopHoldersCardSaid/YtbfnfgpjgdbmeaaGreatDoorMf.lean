/-
  Which certificates are trusted, and which signed origins are good: the program's functions. Which signed origins are good: the program's answer. Objects of some AS numbers: the others are deleted. Sorting objects. The sort of a list of objects, by parts that are short enough. Objects that stand side by side twice are left out once. The objects of some AS numbers, in order, each once.
-/
import Derived.Test.YtbfnfgpjgdbmeaaGreatDoorNo
import Derived.Test.YtbfnfgpjgdbmeaaGreatDoorMab
import Derived.Test.YtbfnfgpjgdbmeaaGreatDoorNa
import Derived.Test.YtbfnfgpjgdbmeaaGreatDoorVw
namespace Go.Proofs.YtbfnfgpjgdbmeaaGreatDoor
open Go.RowKit
def blC (l:List Bool):List AV:=l.map fun b=>.base (.bool b)
theorem blC_len (l:List Bool):(blC l).length=l.length:=by simp [blC]
theorem blC_pure (l:List Bool):(blC l).all AV.pure1=true:=by
 induction l with
 | nil=>rfl
 | cons x l ih=>exact ih
theorem bl_all {l:List Bool} {n:Nat} (h:l.length=n):Tk (blC l) 0 (n * 1) (blC l):=by
 rw [Nat.mul_one,← h,← blC_len l];exact Tk.all _
theorem zeros_bl (n:Nat):zerosL n [.base (.bool false)]=blC (List.replicate n false):=by
 unfold zerosL blC
 induction n with
 | zero=>rfl
 | succ n ih=>rw [List.replicate_succ,List.flatten_cons,ih,List.replicate_succ,List.map_cons];rfl
theorem bl_at0 {l:List Bool} {k:Nat} {b:Bool} (h:l[k]?=some b):(blC l)[0 + k * 1]?=some (.base (.bool b)):=by simp [blC,h]
theorem bl_at {l:List Bool} {k:Nat} {b:Bool} (h:l[k]?=some b):(blC l)[k * 1]?=some (.base (.bool b)):=by simp [blC,h]
theorem bl_sp {l:List Bool} {k:Nat} {v:Bool} (h:k < l.length):Sp (blC l) (0 + k * 1) [.base (.bool v)] (blC (l.set k v)):=by
 have:=Sp.set (blC l) k (.base (.bool v)) (by rwa [blC_len])
 rw [show blC (l.set k v)=(blC l).set k (.base (.bool v)) from by simp [blC,List.map_set]]
 rwa [show 0 + k * 1=k from by omega]
theorem current_any (a b n:Int):AFn Tryz.prog 79 0 [.base (.int .i64 a),.base (.int .i64 b),.base (.int .i64 n)] mt (.base (.bool (decide (a≤n) && decide (n≤b)))) mt:=by
 refine AFn.eq Tryz.func79 rfl rfl (Nat.le_of_ble_eq_true rfl) ?_
 cases h:decide (a≤n) with
 | true =>
  refine Wq<|qW 0 1 rfl<|qA rfl<|Nl<|Wq<|qW 5 14 rfl<|qM rfl<|qM rfl<|qLe rfl<|qM rfl<|gM rfl ‹_›<|gM rfl ‹_›<|gLe rfl ‹_›<|qT rfl ‹_› rfl<|qA rfl<|Nl<|Wz ⟨.inl rfl,_,mt,(Rc (Rt0 rfl) Rv),aM,?_⟩
  exact ⟨rfl,rfl⟩
 | false =>
  refine Wq<|qW 0 1 rfl<|qA rfl<|Nl<|Wq<|qW 5 14 rfl<|qM rfl<|qM rfl<|qLe rfl<|qM rfl<|qD rfl ‹_› rfl<|qD rfl ‹_› rfl<|qD rfl ‹_› rfl<|qP rfl ‹_› rfl<|qA rfl<|Nl<|Wz ⟨.inl rfl,_,mt,(Rc (Rt0 rfl) Rv),aM,?_⟩
  exact ⟨rfl,rfl⟩
theorem issB_drop {l:List CertR} {t:List Bool} {c:CertR} {k:Nat} (h:k < l.length) {tb v:Bool} (hk:t[k]?=some tb) (hv:(tb && l[k].key == c.iss && rcP l[k].r c.r)=v):issB (l.drop k) (t.drop k) c=(v || issB (l.drop (k + 1)) (t.drop (k + 1)) c):=by
 rw [List.drop_eq_getElem_cons h]
 conv=>lhs;unfold issB
 have h1:(t.drop k).headD false=tb:=by
  rw [List.headD_eq_head?_getD,List.head?_drop,hk];rfl
 have h2:(t.drop k).tail=t.drop (k + 1):=by rw [List.tail_drop]
 rw [h1,h2,← hv]
set_option maxHeartbeats 1000000 in
theorem issued_any (cs:List CertR) (t:List Bool) (c:CertR) (hcs:∀ z∈cs,CertOk z) (hc:CertOk c) (hl:t.length=cs.length) (hn:cs.length≤9):AFn Tryz.prog 82 0 [.isl (certsC cs) cs.length,.isl (blC t) t.length,.agg (certC c)] mt (.base (.bool (issB cs t c))) mt:=by
 refine AFn.eq Tryz.func82 rfl rfl (Nat.le_of_ble_eq_true rfl)<|Wq<|qW 0 2 rfl<|qC rfl<|qA rfl<|Nl<|Wq<|Wq<|qW 6 9 rfl<|qM rfl<|qH rfl ty25<|qM rfl<|Nl<|Wb<|W.rename [(0,0)] 1 (by decide) ?_ ?_ (W.loop_ind (α:=Nat) (fun x=>cs.length - x) 1 (fun x=>up (up (up (up (up mt 1 (some (.isl (blC t) t.length))) 5 (some (.own 0 0))) 9 (some (.isl (certsC cs) cs.length))) 10 (some (.base (.int .i64 (cs.length:Int))))) 11 (some (.base (.int .i64 (x:Int))))) (fun x=>up mt 0 (some (certC c))) (fun x=>x≤cs.length∧issB (cs.drop x) (t.drop x) c=issB cs t c) 0 (show 0≤cs.length∧issB (cs.drop 0) (t.drop 0) c=issB cs t c from ⟨Nat.zero_le _,rfl⟩) ?_)
 ·exact aR (aR (aR (aI (aR aM))))
 ·exact aU (kR rfl) aM
 rintro k hIA ihA
 try (dsimp only at hIA)
 try dsimp only
 obtain ⟨hk,hI⟩:=hIA
 by_cases hkc:k < cs.length
 ·have g1:decide ((k:Int) < (cs.length:Int))=true:=decide_eq_true (by omega)
  have hkk:(k:Int) + 1=((k + 1:Nat):Int):=by omega
  have hct:=cert_tk' hkc
  have hxo:=hcs cs[k] (List.getElem_mem hkc)
  obtain ⟨tb,htb⟩:∃ tb,t[k]?=some tb:=⟨t[k],List.getElem?_eq_getElem (by omega)⟩
  have hdr:=fun v=>issB_drop (c:=c) (v:=v) hkc htb
  obtain ⟨x,hx⟩:∃ x,cs[k]=x:=⟨_,rfl⟩
  rw [hx] at hct hxo hdr
  have hcv:=covers21_any x.r c.r hxo.r hc.r
  have htk:k < t.length:=by omega
  unfold rscC at hcv
  refine Wq<|qW 13 14 rfl<|qK rfl<|Nl<|Wq<|Wt rfl ‹_›<|Wu<|Wq<|Wb<|Wq<|qW 18 24 rfl<|qM rfl<|qJ rfl rfl ty25 ty48 (by omega)<|Od rfl rfl (Lg rfl rfl ty48 rfl hct)<|qB rfl ty48<|qA rfl<|qS rfl ty48 (Sl rfl) rfl<|Nl ?_
  cases tb with
  | false =>
   have hd2:=hdr false rfl
   refine Wq<|qW 28 46 rfl<|qM rfl<|qM rfl<|qJ rfl rfl ty75 ty4 (by omega)<|Od rfl rfl (Li rfl rfl (bl_at htb) ty4 rfl)<|qM rfl<|qD rfl rfl rfl<|qD rfl rfl rfl<|qD rfl rfl rfl<|qD rfl rfl rfl<|qD rfl rfl rfl<|qP rfl rfl rfl<|qM rfl<|qD rfl rfl rfl<|qD rfl rfl rfl<|qD rfl rfl rfl<|qD rfl rfl rfl<|qD rfl rfl rfl<|qP rfl rfl rfl<|Nl<|Wo rfl rfl<|Wu<|qW 55 57 rfl<|qZ rfl (iW _ (by omega))<|qM rfl<|Nl ?_
   rw [hkk]
   refine WL.rename [(0,0)] 1 (by decide) ?_ ?_ (ihA (k + 1) (show cs.length - (k + 1) < cs.length - k from by omega) (show (k + 1)≤cs.length∧issB (cs.drop (k + 1)) (t.drop (k + 1)) c=issB cs t c from ⟨by omega,by rw [← hI,hd2];rfl⟩))
   ·exact aR (aR (aR (aI (aR aM))))
   ·exact aU (kR rfl) aM
  | true =>
   cases hq:(x.key == c.iss) with
   | false =>
    have hd2:=hdr false (by rw [hq];rfl)
    refine Wq<|qW 28 46 rfl<|qM rfl<|qM rfl<|qJ rfl rfl ty75 ty4 (by omega)<|Od rfl rfl (Li rfl rfl (bl_at htb) ty4 rfl)<|qM rfl<|gF rfl rfl ty48 rfl<|gL rfl rfl ty3 rfl<|gF rfl rfl ty48 rfl<|gL rfl rfl ty3 rfl<|gE rfl rfl<|qT rfl rfl rfl<|qM rfl<|qD rfl ‹_› rfl<|qD rfl ‹_› rfl<|qD rfl ‹_› rfl<|qD rfl ‹_› rfl<|qD rfl ‹_› rfl<|qP rfl ‹_› rfl<|Nl<|Wo rfl rfl<|Wu<|qW 55 57 rfl<|qZ rfl (iW _ (by omega))<|qM rfl<|Nl ?_
    rw [hkk]
    refine WL.rename [(0,0)] 1 (by decide) ?_ ?_ (ihA (k + 1) (show cs.length - (k + 1) < cs.length - k from by omega) (show (k + 1)≤cs.length∧issB (cs.drop (k + 1)) (t.drop (k + 1)) c=issB cs t c from ⟨by omega,by rw [← hI,hd2];rfl⟩))
    ·exact aR (aR (aR (aI (aR aM))))
    ·exact aU (kR rfl) aM
   | true =>
    cases hp:rcP x.r c.r with
    | false =>
     have hd2:=hdr false (by rw [hq,hp];rfl)
     rw [hp] at hcv
     refine Wq<|qW 28 46 rfl<|qM rfl<|qM rfl<|qJ rfl rfl ty75 ty4 (by omega)<|Od rfl rfl (Li rfl rfl (bl_at htb) ty4 rfl)<|qM rfl<|gF rfl rfl ty48 rfl<|gL rfl rfl ty3 rfl<|gF rfl rfl ty48 rfl<|gL rfl rfl ty3 rfl<|gE rfl rfl<|qT rfl rfl rfl<|qM rfl<|gF rfl ‹_› ty48 rfl<|gG rfl ‹_› ty46 rfl (Tl rfl)<|gF rfl ‹_› ty48 rfl<|gG rfl ‹_› ty46 rfl (Tl rfl)<|gY rfl ‹_› (hcv) fok148 rfl<|qT rfl ‹_› rfl<|Nl<|Wo rfl rfl<|Wu<|qW 55 57 rfl<|qZ rfl (iW _ (by omega))<|qM rfl<|Nl ?_
     rw [hkk]
     refine WL.rename [(0,0)] 1 (by decide) ?_ ?_ (ihA (k + 1) (show cs.length - (k + 1) < cs.length - k from by omega) (show (k + 1)≤cs.length∧issB (cs.drop (k + 1)) (t.drop (k + 1)) c=issB cs t c from ⟨by omega,by rw [← hI,hd2];rfl⟩))
     ·exact aR (aR (aR (aI (aR aM))))
     ·exact aU (kR rfl) aM
    | true =>
     have hd2:=hdr true (by rw [hq,hp];rfl)
     rw [hp] at hcv
     refine Wq<|qW 28 46 rfl<|qM rfl<|qM rfl<|qJ rfl rfl ty75 ty4 (by omega)<|Od rfl rfl (Li rfl rfl (bl_at htb) ty4 rfl)<|qM rfl<|gF rfl rfl ty48 rfl<|gL rfl rfl ty3 rfl<|gF rfl rfl ty48 rfl<|gL rfl rfl ty3 rfl<|gE rfl rfl<|qT rfl rfl rfl<|qM rfl<|gF rfl ‹_› ty48 rfl<|gG rfl ‹_› ty46 rfl (Tl rfl)<|gF rfl ‹_› ty48 rfl<|gG rfl ‹_› ty46 rfl (Tl rfl)<|gY rfl ‹_› (hcv) fok148 rfl<|qT rfl ‹_› rfl<|Nl<|Wt rfl rfl<|Wq<|qW 50 51 rfl<|qA rfl<|Nl<|Wz ⟨.inl rfl,_,mt,(Rc (Rt0 rfl) Rv),aM,?_⟩
     exact ⟨by rw [← hI,hd2];rfl,rfl⟩
 ·have g1:decide ((k:Int) < (cs.length:Int))=false:=decide_eq_false (by omega)
  rw [List.drop_of_length_le (by omega)] at hI
  refine Wq<|qW 13 14 rfl<|qK rfl<|Nl<|Wq<|Wo rfl ‹_›<|Wx<|Wq<|qW 61 62 rfl<|qA rfl<|Nl<|Wz ⟨.inl rfl,_,mt,(Rc (Rt0 rfl) Rv),aM,?_⟩
  exact ⟨by rw [← hI];rfl,rfl⟩
theorem bclone_any (l:List Bool) (h:0 < l.length) (hl:l.length≤1000):AFn Tryz.prog 81 1 [.osl 0 0 l.length 1] (up mt 0 (some (blC l))) (.osl 1 0 l.length 1) (up (up mt 0 (some (blC l))) 1 (some (blC l))):=by
 refine AFn.eq Tryz.func81 rfl rfl (Nat.le_of_ble_eq_true rfl)<|Wq<|qW 1 2 rfl<|qA rfl<|Nl<|Wq<|Wq<|qW 6 8 rfl<|qM rfl<|Od rfl rfl (LO.cmpSN false rfl rfl h rfl ty75)<|Nl<|Wo rfl rfl<|Wu<|Wq<|qW 17 21 rfl<|Od rfl rfl (LO.buildSlice rfl ty75 ty4 (by decide) (by decide) .nil)<|qM rfl<|Od rfl rfl (Lap rfl rfl (Sso rfl rfl (bl_all rfl)) rfl (Tl rfl) ty75 ty75 ty4 (by decide) (by omega) (by omega) (by decide))<|qA rfl<|Nl ?_
 rw [List.nil_append,show 0 + l.length=l.length from Nat.zero_add _]
 refine W.rename [(0,0),(1,19)] 2 (T':=up mt 2 (some (.osl 1 0 l.length 1))) (H':=up (up mt 0 (some (blC l))) 1 (some (blC l))) (by decide) ?_ ?_ ?_
 ·exact aI aM
 ·exact aU (kP rfl (blC_pure _)) (aU (kP rfl (blC_pure _)) aM)
 refine Wz ⟨.inl rfl,_,(up (up mt 0 (some (blC l))) 1 (some (blC l))),(Rc (Rt0 rfl) Rv),(aU rfl (aU rfl aM)),?_⟩
 exact ⟨rfl,rfl⟩
theorem bequal_any (a b:List Bool) (hab:a.length=b.length) (hl:a.length≤1000):∃ v H',AFn Tryz.prog 83 0 [.isl (blC a) a.length,.isl (blC b) b.length] mt v H'∧∃ e:Bool,v=.base (.bool e)∧H'=mt:=by
 refine AFn.ex Tryz.func83 rfl rfl (Nat.le_of_ble_eq_true rfl) ?_
 have g0:((a.length:Int) != (b.length:Int))=false:=by rw [hab];simp
 refine Wq<|qW 0 1 rfl<|qA rfl<|Nl<|Wq<|Wq<|qW 5 10 rfl<|qM rfl<|qH rfl ty75<|qM rfl<|qH rfl ty75<|qN rfl<|Nl<|Wo rfl ‹_›<|Wu<|Wq<|Wq<|qW 19 22 rfl<|qM rfl<|qH rfl ty75<|qM rfl<|Nl<|Wb<|W.rename [] 0 (by decide) ?_ ?_ (W.loop_ind (α:=Nat) (fun x=>a.length - x) 0 (fun x=>up (up (up (up mt 0 (some (.isl (blC a) a.length))) 1 (some (.isl (blC b) b.length))) 12 (some (.base (.int .i64 (a.length:Int))))) 13 (some (.base (.int .i64 (x:Int))))) (fun x=>mt) (fun x=>x≤a.length) 0 (show 0≤a.length from Nat.zero_le _) ?_)
 ·exact aR (aR (aR (aR aM)))
 ·exact aM
 rintro k hIA ihA
 try (dsimp only at hIA)
 try dsimp only
 obtain hk:=hIA
 by_cases hc:k < a.length
 ·have g1:decide ((k:Int) < (a.length:Int))=true:=decide_eq_true (by omega)
  have hkk:(k:Int) + 1=((k + 1:Nat):Int):=by omega
  obtain ⟨x,hx⟩:∃ x,a[k]?=some x:=⟨a[k],List.getElem?_eq_getElem hc⟩
  have hkb:k < b.length:=by omega
  obtain ⟨y,hy⟩:∃ y,b[k]?=some y:=⟨b[k],List.getElem?_eq_getElem hkb⟩
  refine Wq<|qW 26 27 rfl<|qK rfl<|Nl<|Wq<|Wt rfl ‹_›<|Wu<|Wq<|Wb<|Wq<|qW 31 33 rfl<|qM rfl<|qA rfl<|Nl ?_
  cases hq:(x != y) with
  | true =>
   refine Wq<|Wd 37 46 (by decide) rfl mixed rfl<|qM rfl<|qM rfl<|qJ rfl rfl ty75 ty4 (by omega)<|Od rfl rfl (Li rfl rfl (bl_at hx) ty4 rfl)<|qM rfl<|qM rfl<|qJ rfl rfl ty75 ty4 (by omega)<|Od rfl rfl (Li rfl rfl (bl_at hy) ty4 rfl)<|Od rfl rfl (LO.neq_bool rfl rfl rfl ty4)<|Nl ⟨by kernel_rfl,(Wt rfl ‹_›<|Wq<|qW 50 51 rfl<|qA rfl<|Nl<|Wz ⟨.inl rfl,_,mt,(Rc (Rt0 rfl) Rv),aM,?_⟩)⟩
   exact ⟨_,rfl,rfl⟩
  | false =>
   refine Wq<|Wd 37 46 (by decide) rfl mixed rfl<|qM rfl<|qM rfl<|qJ rfl rfl ty75 ty4 (by omega)<|Od rfl rfl (Li rfl rfl (bl_at hx) ty4 rfl)<|qM rfl<|qM rfl<|qJ rfl rfl ty75 ty4 (by omega)<|Od rfl rfl (Li rfl rfl (bl_at hy) ty4 rfl)<|Od rfl rfl (LO.neq_bool rfl rfl rfl ty4)<|Nl ⟨by kernel_rfl,(Wo rfl ‹_›<|Wu<|qW 55 57 rfl<|qZ rfl (iW _ (by omega))<|qM rfl<|Nl ?_)⟩
   rw [hkk]
   refine WL.rename [] 0 (by decide) ?_ ?_ (ihA (k + 1) (show a.length - (k + 1) < a.length - k from by omega) (show (k + 1)≤a.length from hc))
   ·exact aR (aR (aR (aR aM)))
   ·exact aM
 ·have g1:decide ((k:Int) < (a.length:Int))=false:=decide_eq_false (by omega)
  refine Wq<|qW 26 27 rfl<|qK rfl<|Nl<|Wq<|Wo rfl ‹_›<|Wx<|Wq<|qW 61 62 rfl<|qA rfl<|Nl<|Wz ⟨.inl rfl,_,mt,(Rc (Rt0 rfl) Rv),aM,?_⟩
  exact ⟨_,rfl,rfl⟩
structure FnI (cs:List CertR) (now:Int) (f:List Bool):Prop where
 len:f.length=cs.length
 ok:∀ (i:Nat) c,cs[i]?=some c→f[i]?=some true→curC now c=true
theorem FnI.start (cs:List CertR) (now:Int):FnI cs now (List.replicate cs.length false):=by
 refine ⟨by simp,fun i c _ h=>?_⟩
 rw [List.getElem?_replicate] at h
 split at h<;>cases h
theorem FnI.set {cs:List CertR} {now:Int} {f:List Bool} (h:FnI cs now f) {k:Nat} (hk:k < cs.length) {v:Bool} (hv:v=true→curC now cs[k]=true):FnI cs now (f.set k v):=by
 refine ⟨by rw [List.length_set];exact h.len,fun i c hc ho=>?_⟩
 by_cases e:k=i
 ·subst e
  rw [List.getElem?_set_self (by rw [h.len];exact hk)] at ho
  injection ho with ho
  rw [List.getElem?_eq_getElem hk] at hc
  injection hc with hc
  rw [← hc]
  exact hv ho
 ·rw [List.getElem?_set_ne e] at ho
  exact h.ok i c hc ho
set_option maxHeartbeats 4000000 in
theorem trusted_any (cs:List CertR) (as_:List Int) (now:Int) (hcs:∀ z∈cs,CertOk z) (h0:0 < cs.length) (hn:cs.length≤9) (ha:as_.length≤1000):∃ v H',AFn Tryz.prog 26 0 [.isl (certsC cs) cs.length,.isl (intsC as_) as_.length,.base (.int .i64 now)] mt v H'∧∃ t:List Bool,TrI cs as_ now t∧v=.isl (blC t) t.length∧H'=mt:=by
 refine AFn.ex Tryz.func26 rfl rfl (Nat.le_of_ble_eq_true rfl) ?_
 have hz:=zeros_bl cs.length
 have hok:∀ z∈cs,RscOk z.r:=fun z hz=>(hcs z hz).r
 refine Wq<|qW 0 1 rfl<|qA rfl<|Nl<|Wq<|qW 5 9 rfl<|qM rfl<|qH rfl ty25<|Od rfl rfl (LO.makeSlice rfl rfl rfl rfl rfl ty75 ty4 (by decide) (by omega) (by omega) (by omega))<|qA rfl<|Nl<|Wq<|qW 13 17 rfl<|qM rfl<|qH rfl ty25<|Od rfl rfl (LO.makeSlice rfl rfl rfl rfl rfl ty75 ty4 (by decide) (by omega) (by omega) (by omega))<|qA rfl<|Nl ?_
 rw [hz]
 refine Wq<|Wq<|qW 21 24 rfl<|qM rfl<|qH rfl ty25<|qM rfl<|Nl<|Wb<|W.rename [(0,7),(1,15)] 2 (by decide) ?_ ?_ (W.loop_ind (α:=Nat × List Bool × List Bool) (fun x=>cs.length - x.1) 2 (fun x=>up (up (up (up (up (up (up (up mt 0 (some (.isl (certsC cs) cs.length))) 1 (some (.isl (intsC as_) as_.length))) 2 (some (.base (.int .i64 now)))) 7 (some (.osl 0 0 cs.length 1))) 8 (some (.osl 1 0 cs.length 1))) 20 (some (.isl (certsC cs) cs.length))) 21 (some (.base (.int .i64 (cs.length:Int))))) 22 (some (.base (.int .i64 (x.1:Int))))) (fun x=>up (up mt 0 (some (blC x.2.1))) 1 (some (blC x.2.2))) (fun x=>x.1≤cs.length∧TrI cs as_ now x.2.1∧FnI cs now x.2.2) (0,(List.replicate cs.length false),(List.replicate cs.length false)) (show 0≤cs.length∧TrI cs as_ now (List.replicate cs.length false)∧FnI cs now (List.replicate cs.length false) from ⟨Nat.zero_le _,TrI.start cs as_ now,FnI.start cs now⟩) ?_)
 ·exact aR (aR (aR (aI (aI (aR (aR (aR aM)))))))
 ·exact aU (kP rfl (blC_pure _)) (aU (kP rfl (blC_pure _)) aM)
 rintro ⟨k,o,f⟩ hIA ihA
 try (dsimp only at hIA)
 try dsimp only
 obtain ⟨hk,hT,hF⟩:=hIA
 have hol:=hT.len
 have hfl:=hF.len
 by_cases hc:k < cs.length
 ·have g1:decide ((k:Int) < (cs.length:Int))=true:=decide_eq_true (by omega)
  have hkk:(k:Int) + 1=((k + 1:Nat):Int):=by omega
  have hct:=cert_tk' hc
  have hmem:=List.getElem_mem hc
  have hsT:=fun v=>hT.set (v:=v) hc
  have hsF:=fun v=>hF.set (v:=v) hc
  obtain ⟨c,hcc⟩:∃ c,cs[k]=c:=⟨_,rfl⟩
  rw [hcc] at hct hmem hsT hsF
  have hco:=hcs c hmem
  have hcu:=current_any c.fr c.un now
  have hval:=rscvalid_any c.r hco.r
  have hctn:=contains_ints as_ c.key ha
  unfold rscC at hval
  have hkf:k < f.length:=by omega
  have hko:k < o.length:=by omega
  refine Wq<|qW 28 29 rfl<|qK rfl<|Nl<|Wq<|Wt rfl ‹_›<|Wu<|Wq<|Wb<|Wq<|qW 33 39 rfl<|qM rfl<|qJ rfl rfl ty25 ty48 (by omega)<|Od rfl rfl (Lg rfl rfl ty48 rfl hct)<|qB rfl ty48<|qA rfl<|qS rfl ty48 (Sl rfl) rfl<|Nl ?_
  cases hcur:(decide (c.fr≤now) && decide (now≤c.un)) with
  | false =>
   rw [hcur] at hcu
   have hF2:=hsF false (fun h=>by cases h)
   have hT2:=hsT false (fun h=>by cases h)
   have hat:(f.set k false)[k]?=some false:=List.getElem?_set_self hkf
   refine Wq<|qW 43 58 rfl<|qM rfl<|qM rfl<|qF rfl ty48 rfl<|qL rfl ty3 rfl<|qF rfl ty48 rfl<|qL rfl ty3 rfl<|qM rfl<|qY rfl (hcu) fok79 rfl<|qM rfl<|qD rfl rfl rfl<|qD rfl rfl rfl<|qD rfl rfl rfl<|qP rfl rfl rfl<|Od rfl rfl (Ia rfl rfl rfl rfl ty75 ty4 (by omega))<|qS rfl ty4 (bl_sp hkf) rfl<|Nl<|qW 62 83 rfl<|qM rfl<|qM rfl<|qM rfl<|qM rfl<|Od rfl rfl (Ia rfl rfl rfl rfl ty75 ty4 (by omega))<|Od rfl rfl (Ld rfl rfl rfl (bl_at0 hat) ty4 rfl)<|qM rfl<|qD rfl rfl rfl<|qD rfl rfl rfl<|qD rfl rfl rfl<|qD rfl rfl rfl<|qD rfl rfl rfl<|qP rfl rfl rfl<|qM rfl<|qD rfl rfl rfl<|qD rfl rfl rfl<|qD rfl rfl rfl<|qD rfl rfl rfl<|qP rfl rfl rfl<|Od rfl rfl (Ia rfl rfl rfl rfl ty75 ty4 (by omega))<|qS rfl ty4 (bl_sp hko) rfl<|Nl<|qW 87 89 rfl<|qZ rfl (iW _ (by omega))<|qM rfl<|Nl ?_
   rw [hkk]
   refine WL.rename [(0,0),(1,1)] 2 (by decide) ?_ ?_ (ihA ((k + 1),(o.set k false),(f.set k false)) (show cs.length - (k + 1) < cs.length - k from by omega) (show (k + 1)≤cs.length∧TrI cs as_ now (o.set k false)∧FnI cs now (f.set k false) from ⟨by omega,hT2,hF2⟩))
   ·exact aR (aR (aR (aI (aI (aR (aR (aR aM)))))))
   ·exact aU (kP rfl (blC_pure _)) (aU (kP rfl (blC_pure _)) aM)
  | true =>
   rw [hcur] at hcu
   have hF2:=hsF true (fun _=>hcur)
   have hat:(f.set k true)[k]?=some true:=List.getElem?_set_self hkf
   by_cases hik:c.iss=c.key
   ·have d1:(c.iss == c.key)=true:=by simp [hik]
    have hT2:=hsT (decide (c.key∈as_)) (fun h=>tru_one hmem hco.r hcur hik (of_decide_eq_true h))
    refine Wq<|qW 43 58 rfl<|qM rfl<|qM rfl<|qF rfl ty48 rfl<|qL rfl ty3 rfl<|qF rfl ty48 rfl<|qL rfl ty3 rfl<|qM rfl<|qY rfl (hcu) fok79 rfl<|qM rfl<|gF rfl rfl ty48 rfl<|gG rfl rfl ty46 rfl (Tl rfl)<|gY rfl rfl (hval) fok54 rfl<|qT rfl rfl rfl<|Od rfl rfl (Ia rfl rfl rfl rfl ty75 ty4 (by omega))<|qS rfl ty4 (bl_sp hkf) rfl<|Nl<|qW 62 83 rfl<|qM rfl<|qM rfl<|qM rfl<|qM rfl<|Od rfl rfl (Ia rfl rfl rfl rfl ty75 ty4 (by omega))<|Od rfl rfl (Ld rfl rfl rfl (bl_at0 hat) ty4 rfl)<|qM rfl<|gF rfl rfl ty48 rfl<|gL rfl rfl ty3 rfl<|gF rfl rfl ty48 rfl<|gL rfl rfl ty3 rfl<|gE rfl rfl<|qT rfl rfl rfl<|qM rfl<|gM rfl ‹_›<|gF rfl ‹_› ty48 rfl<|gL rfl ‹_› ty3 rfl<|gY rfl ‹_› (hctn) fok80 rfl<|qT rfl ‹_› rfl<|Od rfl rfl (Ia rfl rfl rfl rfl ty75 ty4 (by omega))<|qS rfl ty4 (bl_sp hko) rfl<|Nl<|qW 87 89 rfl<|qZ rfl (iW _ (by omega))<|qM rfl<|Nl ?_
    rw [hkk]
    refine WL.rename [(0,0),(1,1)] 2 (by decide) ?_ ?_ (ihA ((k + 1),(o.set k (decide (c.key∈as_))),(f.set k true)) (show cs.length - (k + 1) < cs.length - k from by omega) (show (k + 1)≤cs.length∧TrI cs as_ now (o.set k (decide (c.key∈as_)))∧FnI cs now (f.set k true) from ⟨by omega,hT2,hF2⟩))
    ·exact aR (aR (aR (aI (aI (aR (aR (aR aM)))))))
    ·exact aU (kP rfl (blC_pure _)) (aU (kP rfl (blC_pure _)) aM)
   ·have d1:(c.iss == c.key)=false:=by simp [hik]
    have hT2:=hsT false (fun h=>by cases h)
    refine Wq<|qW 43 58 rfl<|qM rfl<|qM rfl<|qF rfl ty48 rfl<|qL rfl ty3 rfl<|qF rfl ty48 rfl<|qL rfl ty3 rfl<|qM rfl<|qY rfl (hcu) fok79 rfl<|qM rfl<|gF rfl rfl ty48 rfl<|gG rfl rfl ty46 rfl (Tl rfl)<|gY rfl rfl (hval) fok54 rfl<|qT rfl rfl rfl<|Od rfl rfl (Ia rfl rfl rfl rfl ty75 ty4 (by omega))<|qS rfl ty4 (bl_sp hkf) rfl<|Nl<|qW 62 83 rfl<|qM rfl<|qM rfl<|qM rfl<|qM rfl<|Od rfl rfl (Ia rfl rfl rfl rfl ty75 ty4 (by omega))<|Od rfl rfl (Ld rfl rfl rfl (bl_at0 hat) ty4 rfl)<|qM rfl<|gF rfl rfl ty48 rfl<|gL rfl rfl ty3 rfl<|gF rfl rfl ty48 rfl<|gL rfl rfl ty3 rfl<|gE rfl rfl<|qT rfl rfl rfl<|qM rfl<|qD rfl ‹_› rfl<|qD rfl ‹_› rfl<|qD rfl ‹_› rfl<|qD rfl ‹_› rfl<|qP rfl ‹_› rfl<|Od rfl rfl (Ia rfl rfl rfl rfl ty75 ty4 (by omega))<|qS rfl ty4 (bl_sp hko) rfl<|Nl<|qW 87 89 rfl<|qZ rfl (iW _ (by omega))<|qM rfl<|Nl ?_
    rw [hkk]
    refine WL.rename [(0,0),(1,1)] 2 (by decide) ?_ ?_ (ihA ((k + 1),(o.set k false),(f.set k true)) (show cs.length - (k + 1) < cs.length - k from by omega) (show (k + 1)≤cs.length∧TrI cs as_ now (o.set k false)∧FnI cs now (f.set k true) from ⟨by omega,hT2,hF2⟩))
    ·exact aR (aR (aR (aI (aI (aR (aR (aR aM)))))))
    ·exact aU (kP rfl (blC_pure _)) (aU (kP rfl (blC_pure _)) aM)
 ·have g1:decide ((k:Int) < (cs.length:Int))=false:=decide_eq_false (by omega)
  clear ihA
  refine Wq<|qW 28 29 rfl<|qK rfl<|Nl<|Wq<|Wo rfl ‹_›<|Wx<|Wq<|Wq<|qW 93 94 rfl<|qM rfl<|Nl<|Wb<|W.rename [(0,0),(1,1)] 2 (by decide) ?_ ?_ (W.loop_ind (α:=Nat × List Bool) (fun x=>15 - x.1) 2 (fun x=>up (up (up (up mt 0 (some (.isl (certsC cs) cs.length))) 7 (some (.osl 0 0 cs.length 1))) 8 (some (.osl 1 0 cs.length 1))) 62 (some (.base (.int .i64 (x.1:Int))))) (fun x=>up (up mt 0 (some (blC x.2))) 1 (some (blC f))) (fun x=>x.1≤15∧TrI cs as_ now x.2) (0,o) (show 0≤15∧TrI cs as_ now o from ⟨Nat.zero_le _,hT⟩) ?_)
  ·exact aR (aI (aI (aR aM)))
  ·exact aU (kP rfl (blC_pure _)) (aU (kP rfl (blC_pure _)) aM)
  rintro ⟨r,o⟩ hIB ihB
  try (dsimp only at hIB)
  try dsimp only
  clear hT hol
  obtain ⟨hr,hT⟩:=hIB
  have hol:=hT.len
  by_cases hrc:r < 15
  ·have g2:decide ((r:Int) < 15)=true:=decide_eq_true (by omega)
   have hrr:(r:Int) + 1=((r + 1:Nat):Int):=by omega
   have hne:blC o≠[]:=fun e=>by have h:=congrArg List.length e;rw [blC_len,List.length_nil] at h;omega
   have hcl:=bclone_any o (by omega) (by omega)
   rw [hol] at hcl
   refine Wq<|qW 98 99 rfl<|qK rfl<|Nl<|Wq<|Wt rfl ‹_›<|Wu<|Wq<|Wb<|Wq<|qW 103 106 rfl<|qM rfl<|Od rfl rfl (LO.callP (fr:=[]) rfl rfl hcl fok81 (.osl rfl rfl .nil) rfl (blC_pure _) (blC_pure _) (blC_pure _) hne (by decide) (by decide) (by decide))<|qA rfl<|Nl<|Wy (t:=11) rfl rfl (bl_all hol) (blC_pure _)<|Wq<|Wq<|qW 110 113 rfl<|qM rfl<|qH rfl ty25<|qM rfl<|Nl<|Wb<|W.rename [(0,0),(1,1)] 2 (by decide) ?_ ?_ (W.loop_ind (α:=Nat × List Bool) (fun x=>cs.length - x.1) 2 (fun x=>up (up (up (up (up (up (up (up mt 0 (some (.isl (certsC cs) cs.length))) 7 (some (.osl 0 0 cs.length 1))) 8 (some (.osl 1 0 cs.length 1))) 11 (some (.isl (blC o) cs.length))) 62 (some (.base (.int .i64 (r:Int))))) 66 (some (.isl (certsC cs) cs.length))) 67 (some (.base (.int .i64 (cs.length:Int))))) 68 (some (.base (.int .i64 (x.1:Int))))) (fun x=>up (up mt 0 (some (blC x.2))) 1 (some (blC f))) (fun x=>x.1≤cs.length∧TrI cs as_ now x.2) (0,o) (show 0≤cs.length∧TrI cs as_ now o from ⟨Nat.zero_le _,hT⟩) ?_)
   ·exact aR (aR (aR (aR (aR (aI (aI (aR aM)))))))
   ·exact aU (kP rfl (blC_pure _)) (aU (kP rfl (blC_pure _)) aM)
   rintro ⟨k,q⟩ hIC ihC
   try (dsimp only at hIC)
   try dsimp only
   obtain ⟨hk2,hQ⟩:=hIC
   have hql:=hQ.len
   by_cases hc:k < cs.length
   ·have g1:decide ((k:Int) < (cs.length:Int))=true:=decide_eq_true (by omega)
    have hkk:(k:Int) + 1=((k + 1:Nat):Int):=by omega
    have hct:=cert_tk' hc
    have hmem:=List.getElem_mem hc
    have hsT:=fun v=>hQ.set (v:=v) hc
    have hfok:=fun c h=>hF.ok k c h
    have hqok:=fun c h=>hQ.tr k c h
    have hge:cs[k]?=some cs[k]:=List.getElem?_eq_getElem hc
    obtain ⟨c,hcc⟩:∃ c,cs[k]=c:=⟨_,rfl⟩
    rw [hcc] at hct hmem hsT hge
    have hco:=hcs c hmem
    have hiss:=issued_any cs o c hcs hco hol (by omega)
    rw [hol] at hiss
    have hkf:k < f.length:=by omega
    have hkq:k < q.length:=by omega
    obtain ⟨qb,hqb⟩:∃ b,q[k]?=some b:=⟨q[k],List.getElem?_eq_getElem hkq⟩
    obtain ⟨fb_,hfb⟩:∃ b,f[k]?=some b:=⟨f[k],List.getElem?_eq_getElem hkf⟩
    refine Wq<|qW 117 118 rfl<|qK rfl<|Nl<|Wq<|Wt rfl ‹_›<|Wu<|Wq<|Wb<|Wq<|qW 122 128 rfl<|qM rfl<|qJ rfl rfl ty25 ty48 (by omega)<|Od rfl rfl (Lg rfl rfl ty48 rfl hct)<|qB rfl ty48<|qA rfl<|qS rfl ty48 (Sl rfl) rfl<|Nl ?_
    cases qb with
    | true =>
     have hT2:=hsT true (fun _=>hqok c hge hqb)
     refine qW 132 159 rfl<|qM rfl<|qM rfl<|qM rfl<|qM rfl<|Od rfl rfl (Ia rfl rfl rfl rfl ty75 ty4 (by omega))<|Od rfl rfl (Ld rfl rfl rfl (bl_at0 hqb) ty4 rfl)<|qM rfl<|qD rfl rfl rfl<|qD rfl rfl rfl<|qD rfl rfl rfl<|qD rfl rfl rfl<|qD rfl rfl rfl<|Ud rfl rfl rfl rfl<|Ud rfl rfl rfl rfl<|Ud rfl rfl rfl rfl<|Ud rfl rfl rfl rfl<|Ud rfl rfl rfl rfl<|qD rfl rfl rfl<|qD rfl rfl rfl<|Ud rfl rfl rfl rfl<|Ud rfl rfl rfl rfl<|Ud rfl rfl rfl rfl<|Ud rfl rfl rfl rfl<|qD rfl rfl rfl<|qT rfl rfl rfl<|Od rfl rfl (Ia rfl rfl rfl rfl ty75 ty4 (by omega))<|qS rfl ty4 (bl_sp hkq) rfl<|Nl<|qW 163 165 rfl<|qZ rfl (iW _ (by omega))<|qM rfl<|Nl ?_
     rw [hkk]
     refine WL.rename [(0,0),(1,1)] 2 (by decide) ?_ ?_ (ihC ((k + 1),(q.set k true)) (show cs.length - (k + 1) < cs.length - k from by omega) (show (k + 1)≤cs.length∧TrI cs as_ now (q.set k true) from ⟨by omega,hT2⟩))
     ·exact aR (aR (aR (aR (aR (aI (aI (aR aM)))))))
     ·exact aU (kP rfl (blC_pure _)) (aU (kP rfl (blC_pure _)) aM)
    | false =>
     cases fb_ with
     | false =>
      have hT2:=hsT false (fun h=>by cases h)
      refine qW 132 159 rfl<|qM rfl<|qM rfl<|qM rfl<|qM rfl<|Od rfl rfl (Ia rfl rfl rfl rfl ty75 ty4 (by omega))<|Od rfl rfl (Ld rfl rfl rfl (bl_at0 hqb) ty4 rfl)<|qM rfl<|gM rfl rfl<|gM rfl rfl<|qU rfl rfl rfl (Ia rfl rfl rfl rfl ty75 ty4 (by omega))<|qU rfl rfl rfl (Ld rfl rfl rfl (bl_at0 hfb) ty4 rfl)<|gM rfl rfl<|qD rfl rfl rfl<|qD rfl rfl rfl<|qD rfl rfl rfl<|qD rfl rfl rfl<|qD rfl rfl rfl<|qU rfl rfl rfl (Pf0 rfl rfl rfl rfl)<|gM rfl rfl<|qD rfl rfl rfl<|qD rfl rfl rfl<|qD rfl rfl rfl<|qD rfl rfl rfl<|qU rfl rfl rfl (Pf0 rfl rfl rfl rfl)<|qP rfl rfl rfl<|Od rfl rfl (Ia rfl rfl rfl rfl ty75 ty4 (by omega))<|qS rfl ty4 (bl_sp hkq) rfl<|Nl<|qW 163 165 rfl<|qZ rfl (iW _ (by omega))<|qM rfl<|Nl ?_
      rw [hkk]
      refine WL.rename [(0,0),(1,1)] 2 (by decide) ?_ ?_ (ihC ((k + 1),(q.set k false)) (show cs.length - (k + 1) < cs.length - k from by omega) (show (k + 1)≤cs.length∧TrI cs as_ now (q.set k false) from ⟨by omega,hT2⟩))
      ·exact aR (aR (aR (aR (aR (aI (aI (aR aM)))))))
      ·exact aU (kP rfl (blC_pure _)) (aU (kP rfl (blC_pure _)) aM)
     | true =>
      by_cases hik:c.iss=c.key
      ·have d1:(c.iss != c.key)=false:=by simp [hik]
       have hT2:=hsT false (fun h=>by cases h)
       refine qW 132 159 rfl<|qM rfl<|qM rfl<|qM rfl<|qM rfl<|Od rfl rfl (Ia rfl rfl rfl rfl ty75 ty4 (by omega))<|Od rfl rfl (Ld rfl rfl rfl (bl_at0 hqb) ty4 rfl)<|qM rfl<|gM rfl rfl<|gM rfl rfl<|qU rfl rfl rfl (Ia rfl rfl rfl rfl ty75 ty4 (by omega))<|qU rfl rfl rfl (Ld rfl rfl rfl (bl_at0 hfb) ty4 rfl)<|gM rfl rfl<|gF rfl rfl ty48 rfl<|gL rfl rfl ty3 rfl<|gF rfl rfl ty48 rfl<|gL rfl rfl ty3 rfl<|gN rfl rfl<|qU rfl rfl rfl (Pt rfl rfl rfl rfl)<|gM rfl rfl<|qD rfl ‹_› rfl<|qD rfl ‹_› rfl<|qD rfl ‹_› rfl<|qD rfl ‹_› rfl<|qU rfl rfl rfl (Pf0 rfl rfl ‹_› rfl)<|qP rfl rfl rfl<|Od rfl rfl (Ia rfl rfl rfl rfl ty75 ty4 (by omega))<|qS rfl ty4 (bl_sp hkq) rfl<|Nl<|qW 163 165 rfl<|qZ rfl (iW _ (by omega))<|qM rfl<|Nl ?_
       rw [hkk]
       refine WL.rename [(0,0),(1,1)] 2 (by decide) ?_ ?_ (ihC ((k + 1),(q.set k false)) (show cs.length - (k + 1) < cs.length - k from by omega) (show (k + 1)≤cs.length∧TrI cs as_ now (q.set k false) from ⟨by omega,hT2⟩))
       ·exact aR (aR (aR (aR (aR (aI (aI (aR aM)))))))
       ·exact aU (kP rfl (blC_pure _)) (aU (kP rfl (blC_pure _)) aM)
      ·have d1:(c.iss != c.key)=true:=by simp [hik]
       have hT2:=hsT (issB cs o c) (fun h=>tru_iss hok hT hmem (hfok c hge hfb) hik h)
       refine qW 132 159 rfl<|qM rfl<|qM rfl<|qM rfl<|qM rfl<|Od rfl rfl (Ia rfl rfl rfl rfl ty75 ty4 (by omega))<|Od rfl rfl (Ld rfl rfl rfl (bl_at0 hqb) ty4 rfl)<|qM rfl<|gM rfl rfl<|gM rfl rfl<|qU rfl rfl rfl (Ia rfl rfl rfl rfl ty75 ty4 (by omega))<|qU rfl rfl rfl (Ld rfl rfl rfl (bl_at0 hfb) ty4 rfl)<|gM rfl rfl<|gF rfl rfl ty48 rfl<|gL rfl rfl ty3 rfl<|gF rfl rfl ty48 rfl<|gL rfl rfl ty3 rfl<|gN rfl rfl<|qU rfl rfl rfl (Pt rfl rfl rfl rfl)<|gM rfl rfl<|gM rfl ‹_›<|gM rfl ‹_›<|gG rfl ‹_› ty48 rfl (Tl rfl)<|gY rfl ‹_› (hiss) fok82 rfl<|qU rfl rfl rfl (Pt rfl rfl ‹_› rfl)<|qP rfl rfl rfl<|Od rfl rfl (Ia rfl rfl rfl rfl ty75 ty4 (by omega))<|qS rfl ty4 (bl_sp hkq) rfl<|Nl<|qW 163 165 rfl<|qZ rfl (iW _ (by omega))<|qM rfl<|Nl ?_
       rw [hkk]
       refine WL.rename [(0,0),(1,1)] 2 (by decide) ?_ ?_ (ihC ((k + 1),(q.set k (issB cs o c))) (show cs.length - (k + 1) < cs.length - k from by omega) (show (k + 1)≤cs.length∧TrI cs as_ now (q.set k (issB cs o c)) from ⟨by omega,hT2⟩))
       ·exact aR (aR (aR (aR (aR (aI (aI (aR aM)))))))
       ·exact aU (kP rfl (blC_pure _)) (aU (kP rfl (blC_pure _)) aM)
   ·have g1:decide ((k:Int) < (cs.length:Int))=false:=decide_eq_false (by omega)
    obtain ⟨_,_,heq,e,rfl,rfl⟩:=bequal_any o q (by omega) (by omega)
    rw [hol,hql] at heq
    clear ihC
    refine Wq<|qW 117 118 rfl<|qK rfl<|Nl<|Wq<|Wo rfl ‹_›<|Wx<|Wq<|qW 169 172 rfl<|qM rfl<|qM rfl<|Od rfl rfl (LO.callB (fr:=[0]) rfl rfl (heq) fok83 (.cons rfl (.pure rfl) (.cons rfl (.one (.osl (by decide) rfl (bl_all hql) (blC_pure _))) .nil)))<|Nl ?_
    cases e with
    | true =>
     clear ihB
     refine Wt rfl rfl<|Wx<|Wq<|qW 182 184 rfl<|qM rfl<|qA rfl<|Nl ?_
     rw [← hql]
     refine Wy (t:=6) rfl rfl (bl_all rfl) (blC_pure _)<|Wz ⟨.inl rfl,_,mt,(Rc (Rt0 rfl) Rv),aM,?_⟩
     exact ⟨q,hQ,rfl,rfl⟩
    | false =>
     refine Wo rfl rfl<|Wu<|qW 176 178 rfl<|qZ rfl (iW _ (by omega))<|qM rfl<|Nl ?_
     rw [hrr]
     refine WL.rename [(0,0),(1,1)] 2 (by decide) ?_ ?_ (ihB ((r + 1),q) (show 15 - (r + 1) < 15 - r from by omega) (show (r + 1)≤15∧TrI cs as_ now q from ⟨by omega,hQ⟩))
     ·exact aR (aI (aI (aR aM)))
     ·exact aU (kP rfl (blC_pure _)) (aU (kP rfl (blC_pure _)) aM)
  ·have g2:decide ((r:Int) < 15)=false:=decide_eq_false (by omega)
   clear ihB
   refine Wq<|qW 98 99 rfl<|qK rfl<|Nl<|Wq<|Wo rfl ‹_›<|Wx<|Wq<|qW 182 184 rfl<|qM rfl<|qA rfl<|Nl ?_
   rw [← hol]
   refine Wy (t:=6) rfl rfl (bl_all rfl) (blC_pure _)<|Wz ⟨.inl rfl,_,mt,(Rc (Rt0 rfl) Rv),aM,?_⟩
   exact ⟨o,hT,rfl,rfl⟩
def badO (s:SgR) (o:ObjR):Bool:=(o.asn != s.asn) || (decide (o.mx < o.p.len) || decide (o.mx > widthA o.p.ad))
theorem owidth_any (p:Pre):AFn Tryz.prog 150 0 [.agg (preC p)] mt (.base (.int .i64 (widthA p.ad))) mt:=by
 refine AFn.eq Tryz.func150 rfl rfl (Nat.le_of_ble_eq_true rfl) ?_
 unfold widthA
 cases h:p.ad.v6 with
 | true =>
  refine Wq<|qW 0 2 rfl<|qC rfl<|qA rfl<|Nl<|Wq<|Wq<|qW 6 9 rfl<|qF rfl ty38 rfl<|qF rfl ty36 rfl<|qL rfl ty4 rfl<|Nl<|Wt rfl (h)<|Wq<|qW 13 14 rfl<|qA rfl<|Nl<|Wz ⟨.inl rfl,_,mt,(Rc (Rt0 rfl) Rv),aM,?_⟩
  exact ⟨rfl,rfl⟩
 | false =>
  refine Wq<|qW 0 2 rfl<|qC rfl<|qA rfl<|Nl<|Wq<|Wq<|qW 6 9 rfl<|qF rfl ty38 rfl<|qF rfl ty36 rfl<|qL rfl ty4 rfl<|Nl<|Wo rfl (h)<|Wu<|Wq<|qW 18 19 rfl<|qA rfl<|Nl<|Wz ⟨.inl rfl,_,mt,(Rc (Rt0 rfl) Rv),aM,?_⟩
  exact ⟨rfl,rfl⟩
set_option maxHeartbeats 1000000 in
theorem formed1_any (s:SgR) (o:ObjR) (ho:ObjB o):AFn Tryz.prog 149 0 [.agg (objC o),.imm (sgC s) 0] mt (.base (.bool (badO s o))) mt:=by
 refine AFn.eq Tryz.func149 rfl rfl (Nat.le_of_ble_eq_true rfl) ?_
 have hva:=pvalid_ok o.p ho.p
 have hwi:=owidth_any o.p
 unfold badO
 cases h1:(o.asn != s.asn) with
 | true =>
  refine Wq<|qW 0 2 rfl<|qC rfl<|qA rfl<|Nl<|Wq<|Wd 6 34 (by decide) rfl mixed rfl<|qF rfl ty40 rfl<|qL rfl ty3 rfl<|qI rfl ty42 rfl<|Od rfl rfl (Li rfl rfl rfl ty3 rfl)<|qN rfl<|qM rfl<|qD rfl ‹_› rfl<|qD rfl ‹_› rfl<|qD rfl ‹_› rfl<|qD rfl ‹_› rfl<|qT rfl ‹_› rfl<|qM rfl<|qD rfl rfl rfl<|qD rfl rfl rfl<|qD rfl rfl rfl<|qD rfl rfl rfl<|qD rfl rfl rfl<|qD rfl rfl rfl<|qT rfl rfl rfl<|qM rfl<|qD rfl rfl rfl<|qD rfl rfl rfl<|qD rfl rfl rfl<|qD rfl rfl rfl<|qD rfl rfl rfl<|qD rfl rfl rfl<|qT rfl rfl rfl<|qA rfl<|Nl ⟨by kernel_rfl,(Wz ⟨.inl rfl,_,mt,(Rc (Rt0 rfl) Rv),aM,?_⟩)⟩
  exact ⟨rfl,rfl⟩
 | false =>
  cases h2:decide (o.mx < o.p.len) with
  | true =>
   refine Wq<|qW 0 2 rfl<|qC rfl<|qA rfl<|Nl<|Wq<|Wd 6 34 (by decide) rfl mixed rfl<|qF rfl ty40 rfl<|qL rfl ty3 rfl<|qI rfl ty42 rfl<|Od rfl rfl (Li rfl rfl rfl ty3 rfl)<|qN rfl<|qM rfl<|gF rfl ‹_› ty40 rfl<|gG rfl ‹_› ty38 rfl (Tl rfl)<|gY rfl ‹_› (hva) fok42 rfl<|gO rfl ‹_›<|qP rfl ‹_› rfl<|qM rfl<|gF rfl rfl ty40 rfl<|gL rfl rfl ty3 rfl<|gF rfl rfl ty40 rfl<|gF rfl rfl ty38 rfl<|gL rfl rfl ty3 rfl<|gK rfl rfl<|qP rfl rfl rfl<|qM rfl<|qD rfl ‹_› rfl<|qD rfl ‹_› rfl<|qD rfl ‹_› rfl<|qD rfl ‹_› rfl<|qD rfl ‹_› rfl<|qD rfl ‹_› rfl<|qT rfl ‹_› rfl<|qA rfl<|Nl ⟨by kernel_rfl,(Wz ⟨.inl rfl,_,mt,(Rc (Rt0 rfl) Rv),aM,?_⟩)⟩
   exact ⟨rfl,rfl⟩
  | false =>
   refine Wq<|qW 0 2 rfl<|qC rfl<|qA rfl<|Nl<|Wq<|Wd 6 34 (by decide) rfl mixed rfl<|qF rfl ty40 rfl<|qL rfl ty3 rfl<|qI rfl ty42 rfl<|Od rfl rfl (Li rfl rfl rfl ty3 rfl)<|qN rfl<|qM rfl<|gF rfl ‹_› ty40 rfl<|gG rfl ‹_› ty38 rfl (Tl rfl)<|gY rfl ‹_› (hva) fok42 rfl<|gO rfl ‹_›<|qP rfl ‹_› rfl<|qM rfl<|gF rfl rfl ty40 rfl<|gL rfl rfl ty3 rfl<|gF rfl rfl ty40 rfl<|gF rfl rfl ty38 rfl<|gL rfl rfl ty3 rfl<|gK rfl rfl<|qP rfl rfl rfl<|qM rfl<|gF rfl ‹_› ty40 rfl<|gL rfl ‹_› ty3 rfl<|gF rfl ‹_› ty40 rfl<|gG rfl ‹_› ty38 rfl (Tl rfl)<|gY rfl ‹_› (hwi) fok150 rfl<|gGt rfl ‹_›<|qP rfl ‹_› rfl<|qA rfl<|Nl ⟨by kernel_rfl,(Wz ⟨.inl rfl,_,mt,(Rc (Rt0 rfl) Rv),aM,?_⟩)⟩
   exact ⟨rfl,rfl⟩
theorem formed_any (s:SgR) (hs:SgOk s):∃ v H',AFn Tryz.prog 84 0 [.agg (sgC s)] mt v H'∧∃ b:Bool,v=.base (.bool b)∧H'=mt:=by
 refine AFn.ex Tryz.func84 rfl rfl (Nat.le_of_ble_eq_true rfl) ?_
 have hcn:=cnObject_any s.os 149 [.imm (sgC s) 0] rfl rfl fok149 _ (fun z hz=>formed1_any s z (hs.o z hz)) (by have:=hs.ol;omega)
 have d1:decide (s.asn ≥ 0)=true:=decide_eq_true hs.a0
 have d2:decide (s.asn≤4294967295)=true:=decide_eq_true (by have:=hs.a9;omega)
 have d3:decide ((s.os.length:Int)≤512)=true:=decide_eq_true (by have:=hs.ol;omega)
 refine Wq<|qW 0 2 rfl<|qC rfl<|qA rfl<|Nl<|W.frzo (t:=1) rfl rfl rfl<|Wq<|qW 6 8 rfl<|Od rfl rfl (LO.makeClo (cs:=[.imm (sgC s) 0]) rfl rfl rfl)<|qA rfl<|Nl<|Wq<|qW 12 34 rfl<|qI rfl ty42 rfl<|Od rfl rfl (Li rfl rfl rfl ty3 rfl)<|qGe rfl<|qM rfl<|qU rfl ‹_› rfl (Fi rfl rfl ty42 rfl (by decide))<|qU rfl ‹_› rfl (Li rfl rfl rfl ty3 rfl)<|gLe rfl ‹_›<|qT rfl ‹_› rfl<|qM rfl<|qU rfl ‹_› rfl (Fi rfl rfl ty42 rfl (by decide))<|qU rfl ‹_› rfl (Li rfl rfl rfl ty30 rfl)<|gH rfl ‹_› ty30<|gLe rfl ‹_›<|qT rfl ‹_› rfl<|qM rfl<|qU rfl ‹_› rfl (Fi rfl rfl ty42 rfl (by decide))<|qU rfl ‹_› rfl (Li rfl rfl rfl ty30 rfl)<|gM rfl ‹_›<|gY rfl ‹_› (hcn) fok151 rfl<|gO rfl ‹_›<|qT rfl ‹_› rfl<|qA rfl<|Nl<|Wz ⟨.inl rfl,_,mt,(Rc (Rt0 rfl) Rv),aM,?_⟩
 exact ⟨_,rfl,rfl⟩
def holdB (r:Rsc) (s:SgR):Bool:=!(s.os.any fun o=>!(hasR r.ad (plP o.p).1 (plP o.p).2))
theorem holds1_any (r:Rsc) (hr:RscOk r) (o:ObjR) (ho:ObjB o):AFn Tryz.prog 152 0 [.agg (objC o),.imm (rscC r) 0] mt (.base (.bool (!(hasR r.ad (plP o.p).1 (plP o.p).2)))) mt:=by
 refine AFn.eq Tryz.func152 rfl rfl (Nat.le_of_ble_eq_true rfl) ?_
 have h1:=phas_any r hr o.p ho.p
 unfold rscC at h1 ⊢
 refine Wq<|qW 0 2 rfl<|qC rfl<|qA rfl<|Nl<|Wq<|qW 6 12 rfl<|Od rfl rfl (Lg rfl rfl ty46 rfl (Tl rfl))<|qF rfl ty40 rfl<|qG rfl ty38 rfl (Tl rfl)<|qY rfl (h1) fok20 rfl<|qO rfl<|qA rfl<|Nl<|Wz ⟨.inl rfl,_,mt,(Rc (Rt0 rfl) Rv),aM,?_⟩
 exact ⟨rfl,rfl⟩
theorem oholds_any (r:Rsc) (hr:RscOk r) (s:SgR) (hs:SgOk s):AFn Tryz.prog 85 0 [.agg (rscC r),.agg (sgC s)] mt (.base (.bool (holdB r s))) mt:=by
 refine AFn.eq Tryz.func85 rfl rfl (Nat.le_of_ble_eq_true rfl) ?_
 have hcn:=cnObject_any s.os 152 [.imm (rscC r) 0] rfl rfl fok152 _ (fun z hz=>holds1_any r hr z (hs.o z hz)) (by have:=hs.ol;omega)
 unfold holdB
 refine Wq<|qW 0 3 rfl<|qC rfl<|qC rfl<|qA rfl<|Nl<|W.frzo (t:=2) rfl rfl rfl<|Wq<|qW 7 13 rfl<|qF rfl ty42 rfl<|qL rfl ty30 rfl<|Od rfl rfl (LO.makeClo (cs:=[.imm (rscC r) 0]) rfl rfl rfl)<|qY rfl (hcn) fok151 rfl<|qO rfl<|qA rfl<|Nl<|Wz ⟨.inl rfl,_,mt,(Rc (Rt0 rfl) Rv),aM,?_⟩
 exact ⟨rfl,rfl⟩
def GoodS (cs:List CertR) (t:List Bool) (now:Int) (s:SgR):Prop:=(s.fr≤now∧now≤s.un)∧∃ (i:Nat) (c:CertR),cs[i]?=some c∧t[i]?=some true∧c.key=s.key∧holdB c.r s=true
set_option maxHeartbeats 4000000 in
theorem explain_any (cs:List CertR) (t:List Bool) (s:SgR) (now:Int) (hcs:∀ z∈cs,CertOk z) (hs:SgOk s) (hl:t.length=cs.length) (hn:cs.length≤9):∃ v H',AFn Tryz.prog 27 0 [.isl (certsC cs) cs.length,.isl (blC t) t.length,.agg (sgC s),.base (.int .i64 now)] mt v H'∧∃ e:Int,(e=0→GoodS cs t now s)∧v=.base (.int .i64 e)∧H'=mt:=by
 refine AFn.ex Tryz.func27 rfl rfl (Nat.le_of_ble_eq_true rfl) ?_
 obtain ⟨_,_,hfo,b,rfl,rfl⟩:=formed_any s hs
 have hcu:=current_any s.fr s.un now
 cases b with
 | false =>
  refine Wq<|qW 0 2 rfl<|qC rfl<|qA rfl<|Nl<|Wq<|Wb<|Wq<|qW 6 10 rfl<|qG rfl ty42 rfl (Tl rfl)<|qY rfl (hfo) fok84 rfl<|qO rfl<|qA rfl<|Nl<|Wt rfl rfl<|Wq<|qW 14 15 rfl<|qA rfl<|Nl<|Wz ⟨.inl rfl,_,mt,(Rc (Rt0 rfl) Rv),aM,?_⟩
  exact ⟨1,fun h=>absurd h (by decide),rfl,rfl⟩
 | true =>
  cases hc0:(decide (s.fr≤now) && decide (now≤s.un)) with
  | false =>
   rw [hc0] at hcu
   refine Wq<|qW 0 2 rfl<|qC rfl<|qA rfl<|Nl<|Wq<|Wb<|Wq<|qW 6 10 rfl<|qG rfl ty42 rfl (Tl rfl)<|qY rfl (hfo) fok84 rfl<|qO rfl<|qA rfl<|Nl<|Wo rfl rfl<|Wq<|qW 19 27 rfl<|qF rfl ty42 rfl<|qL rfl ty3 rfl<|qF rfl ty42 rfl<|qL rfl ty3 rfl<|qM rfl<|qY rfl (hcu) fok79 rfl<|qO rfl<|qA rfl<|Nl<|Wt rfl rfl<|Wq<|qW 31 32 rfl<|qA rfl<|Nl<|Wz ⟨.inl rfl,_,mt,(Rc (Rt0 rfl) Rv),aM,?_⟩
   exact ⟨14,fun h=>absurd h (by decide),rfl,rfl⟩
  | true =>
   rw [hc0] at hcu
   rw [Bool.and_eq_true,decide_eq_true_eq,decide_eq_true_eq] at hc0
   refine Wq<|qW 0 2 rfl<|qC rfl<|qA rfl<|Nl<|Wq<|Wb<|Wq<|qW 6 10 rfl<|qG rfl ty42 rfl (Tl rfl)<|qY rfl (hfo) fok84 rfl<|qO rfl<|qA rfl<|Nl<|Wo rfl rfl<|Wq<|qW 19 27 rfl<|qF rfl ty42 rfl<|qL rfl ty3 rfl<|qF rfl ty42 rfl<|qL rfl ty3 rfl<|qM rfl<|qY rfl (hcu) fok79 rfl<|qO rfl<|qA rfl<|Nl<|Wo rfl rfl<|Wu<|Wq<|qW 36 37 rfl<|qA rfl<|Nl<|Wq<|Wq<|qW 41 44 rfl<|qM rfl<|qH rfl ty25<|qM rfl<|Nl<|Wb<|W.rename [(0,0)] 1 (by decide) ?_ ?_ (W.loop_ind (α:=Nat × Int) (fun x=>cs.length - x.1) 1 (fun x=>up (up (up (up (up (up mt 1 (some (.isl (blC t) t.length))) 6 (some (.own 0 0))) 9 (some (.base (.int .i64 x.2)))) 24 (some (.isl (certsC cs) cs.length))) 25 (some (.base (.int .i64 (cs.length:Int))))) 26 (some (.base (.int .i64 (x.1:Int))))) (fun x=>up mt 0 (some (sgC s))) (fun x=>x.1≤cs.length∧0 < x.2) (0,11) (show 0≤cs.length∧0 < 11 from ⟨Nat.zero_le _,by decide⟩) ?_)
   ·exact aR (aR (aR (aR (aI (aR aM)))))
   ·exact aU (kR rfl) aM
   rintro ⟨k,e⟩ hIA ihA
   try (dsimp only at hIA)
   try dsimp only
   obtain ⟨hk,he⟩:=hIA
   by_cases hkc:k < cs.length
   ·have g1:decide ((k:Int) < (cs.length:Int))=true:=decide_eq_true (by omega)
    have hkk:(k:Int) + 1=((k + 1:Nat):Int):=by omega
    have hct:=cert_tk' hkc
    have hge:cs[k]?=some cs[k]:=List.getElem?_eq_getElem hkc
    have hxo:=hcs cs[k] (List.getElem_mem hkc)
    have hkt:k < t.length:=by omega
    obtain ⟨tb,htb⟩:∃ tb,t[k]?=some tb:=⟨t[k],List.getElem?_eq_getElem hkt⟩
    obtain ⟨c,hx⟩:∃ x,cs[k]=x:=⟨_,rfl⟩
    rw [hx] at hct hxo hge
    have hho:=oholds_any c.r hxo.r s hs
    unfold rscC at hho
    refine Wq<|qW 48 49 rfl<|qK rfl<|Nl<|Wq<|Wt rfl ‹_›<|Wu<|Wq<|Wb<|Wq<|qW 53 59 rfl<|qM rfl<|qJ rfl rfl ty25 ty48 (by omega)<|Od rfl rfl (Lg rfl rfl ty48 rfl hct)<|qB rfl ty48<|qA rfl<|qS rfl ty48 (Sl rfl) rfl<|Nl<|Wb ?_
    by_cases hkey:c.key=s.key
    ·have d1:(c.key != s.key)=false:=by simp [hkey]
     cases tb with
     | false =>
      refine Wq<|qW 63 69 rfl<|qF rfl ty48 rfl<|qL rfl ty3 rfl<|qF rfl ty42 rfl<|qL rfl ty3 rfl<|qN rfl<|qA rfl<|Nl<|Wo rfl ‹_›<|Wq<|qW 73 79 rfl<|qM rfl<|qM rfl<|qJ rfl rfl ty75 ty4 (by omega)<|Od rfl rfl (Li rfl rfl (bl_at htb) ty4 rfl)<|qO rfl<|qA rfl<|Nl<|Wt rfl rfl ?_
      cases h11:(e == 11) with
      | true =>
       refine Wq<|qW 83 85 rfl<|qM rfl<|qE rfl<|Nl<|Wt rfl ‹_›<|qW 89 90 rfl<|qA rfl<|Nl<|qW 114 116 rfl<|qZ rfl (iW _ (by omega))<|qM rfl<|Nl ?_
       rw [hkk]
       refine WL.rename [(0,0)] 1 (by decide) ?_ ?_ (ihA ((k + 1),16) (show cs.length - (k + 1) < cs.length - k from by omega) (show (k + 1)≤cs.length∧0 < 16 from ⟨by omega,by decide⟩))
       ·exact aR (aR (aR (aR (aI (aR aM)))))
       ·exact aU (kR rfl) aM
      | false =>
       refine Wq<|qW 83 85 rfl<|qM rfl<|qE rfl<|Nl<|Wo rfl ‹_›<|Wu<|qW 114 116 rfl<|qZ rfl (iW _ (by omega))<|qM rfl<|Nl ?_
       rw [hkk]
       refine WL.rename [(0,0)] 1 (by decide) ?_ ?_ (ihA ((k + 1),e) (show cs.length - (k + 1) < cs.length - k from by omega) (show (k + 1)≤cs.length∧0 < e from ⟨by omega,he⟩))
       ·exact aR (aR (aR (aR (aI (aR aM)))))
       ·exact aU (kR rfl) aM
     | true =>
      cases hh:holdB c.r s with
      | false =>
       rw [hh] at hho
       refine Wq<|qW 63 69 rfl<|qF rfl ty48 rfl<|qL rfl ty3 rfl<|qF rfl ty42 rfl<|qL rfl ty3 rfl<|qN rfl<|qA rfl<|Nl<|Wo rfl ‹_›<|Wq<|qW 73 79 rfl<|qM rfl<|qM rfl<|qJ rfl rfl ty75 ty4 (by omega)<|Od rfl rfl (Li rfl rfl (bl_at htb) ty4 rfl)<|qO rfl<|qA rfl<|Nl<|Wo rfl rfl<|Wq<|qW 94 100 rfl<|qF rfl ty48 rfl<|qG rfl ty46 rfl (Tl rfl)<|qG rfl ty42 rfl (Tl rfl)<|qY rfl (hho) fok85 rfl<|qO rfl<|qA rfl<|Nl<|Wt rfl rfl<|qW 104 105 rfl<|qA rfl<|Nl<|qW 114 116 rfl<|qZ rfl (iW _ (by omega))<|qM rfl<|Nl ?_
       rw [hkk]
       refine WL.rename [(0,0)] 1 (by decide) ?_ ?_ (ihA ((k + 1),17) (show cs.length - (k + 1) < cs.length - k from by omega) (show (k + 1)≤cs.length∧0 < 17 from ⟨by omega,by decide⟩))
       ·exact aR (aR (aR (aR (aI (aR aM)))))
       ·exact aU (kR rfl) aM
      | true =>
       rw [hh] at hho
       refine Wq<|qW 63 69 rfl<|qF rfl ty48 rfl<|qL rfl ty3 rfl<|qF rfl ty42 rfl<|qL rfl ty3 rfl<|qN rfl<|qA rfl<|Nl<|Wo rfl ‹_›<|Wq<|qW 73 79 rfl<|qM rfl<|qM rfl<|qJ rfl rfl ty75 ty4 (by omega)<|Od rfl rfl (Li rfl rfl (bl_at htb) ty4 rfl)<|qO rfl<|qA rfl<|Nl<|Wo rfl rfl<|Wq<|qW 94 100 rfl<|qF rfl ty48 rfl<|qG rfl ty46 rfl (Tl rfl)<|qG rfl ty42 rfl (Tl rfl)<|qY rfl (hho) fok85 rfl<|qO rfl<|qA rfl<|Nl<|Wo rfl rfl<|Wq<|qW 109 110 rfl<|qA rfl<|Nl<|Wz ⟨.inl rfl,_,mt,(Rc (Rt0 rfl) Rv),aM,?_⟩
       exact ⟨0,fun _=>⟨hc0,k,c,hge,htb,hkey,hh⟩,rfl,rfl⟩
    ·have d1:(c.key != s.key)=true:=by simp [hkey]
     refine Wq<|qW 63 69 rfl<|qF rfl ty48 rfl<|qL rfl ty3 rfl<|qF rfl ty42 rfl<|qL rfl ty3 rfl<|qN rfl<|qA rfl<|Nl<|Wt rfl ‹_›<|Wu<|qW 114 116 rfl<|qZ rfl (iW _ (by omega))<|qM rfl<|Nl ?_
     rw [hkk]
     refine WL.rename [(0,0)] 1 (by decide) ?_ ?_ (ihA ((k + 1),e) (show cs.length - (k + 1) < cs.length - k from by omega) (show (k + 1)≤cs.length∧0 < e from ⟨by omega,he⟩))
     ·exact aR (aR (aR (aR (aI (aR aM)))))
     ·exact aU (kR rfl) aM
   ·have g1:decide ((k:Int) < (cs.length:Int))=false:=decide_eq_false (by omega)
    refine Wq<|qW 48 49 rfl<|qK rfl<|Nl<|Wq<|Wo rfl ‹_›<|Wx<|Wq<|qW 120 122 rfl<|qM rfl<|qA rfl<|Nl<|Wz ⟨.inl rfl,_,mt,(Rc (Rt0 rfl) Rv),aM,?_⟩
    exact ⟨e,fun h=>absurd h (by omega),rfl,rfl⟩
theorem take_setR {α:Type} {l:List α} {i:Nat} {v:α} (h:i < l.length):(l.set i v).take (i + 1)=l.take i++[v]:=by
 rw [List.take_add_one,List.take_set_of_le (Nat.le_refl _),List.getElem?_set_self h];rfl
theorem drop_setR {α:Type} {l:List α} {i j:Nat} {v:α} (h:i < j):(l.set i v).drop j=l.drop j:=List.drop_set_of_lt h
theorem get_dropR {α:Type} {l m:List α} {j:Nat} (h:m.drop j=l.drop j) (hj:j < l.length) (hl:m.length=l.length):m[j]'(by omega)=l[j]:=by
 have h1:(m.drop j)[0]?=(l.drop j)[0]?:=by rw [h]
 rw [List.getElem?_drop,List.getElem?_drop,Nat.add_zero,List.getElem?_eq_getElem hj,List.getElem?_eq_getElem (by omega)] at h1
 injection h1
theorem drop_stepR {α:Type} {l m:List α} {j:Nat} (h:m.drop j=l.drop j):m.drop (j + 1)=l.drop (j + 1):=by
 rw [← List.drop_drop,← List.drop_drop,h]
def cmpO (a b:ObjR):Int:=orI (cmpP a.p b.p) (orI (cmpI a.mx b.mx) (cmpI a.asn b.asn))
theorem compare_any (a b:ObjR):AFn Tryz.prog 88 0 [.agg (objC a),.agg (objC b)] mt (.base (.int .i64 (cmpO a b))) mt:=by
 refine AFn.eq Tryz.func88 rfl rfl (Nat.le_of_ble_eq_true rfl) ?_
 have h1:=pcmp_any a.p b.p
 have h2:=cmpi_any a.mx b.mx
 have h3:=cmpi_any a.asn b.asn
 have h6:=or3_any (cmpP a.p b.p) (cmpI a.mx b.mx) (cmpI a.asn b.asn)
 refine Wq<|qW 0 3 rfl<|qC rfl<|qC rfl<|qA rfl<|Nl<|Wq<|Wd 7 25 (by decide) rfl mixed rfl<|qF rfl ty40 rfl<|qG rfl ty38 rfl (Tl rfl)<|qF rfl ty40 rfl<|qG rfl ty38 rfl (Tl rfl)<|qY rfl (h1) fok61 rfl<|qF rfl ty40 rfl<|qL rfl ty3 rfl<|qF rfl ty40 rfl<|qL rfl ty3 rfl<|qY rfl (h2) fok136 rfl<|qF rfl ty40 rfl<|qL rfl ty3 rfl<|qF rfl ty40 rfl<|qL rfl ty3 rfl<|qY rfl (h3) fok136 rfl<|Od rfl rfl (LO.buildSlice rfl ty22 ty3 (by decide) (by decide) (.cons rfl rfl rfl rfl (Sl rfl) (.cons rfl rfl rfl rfl (Sl rfl) (.cons rfl rfl rfl rfl (Sl rfl) .nil))))<|Od rfl rfl (C0 (fr:=[22]) rfl rfl (h6) fok135 (.cons rfl (.one (.osl (by decide) rfl (Tl rfl) rfl)) .nil) rfl)<|qA rfl<|Nl ⟨by kernel_rfl,(Wz ⟨.inl rfl,_,mt,(Rc (Rt0 rfl) Rv),aM,?_⟩)⟩
 exact ⟨rfl,rfl⟩
theorem ba_get {s:ByteArray} {j:Nat} (h:j < s.size):s[j]?=some s[j]:=getElem?_pos s j h
theorem len64_any (n:Nat) (hn:n < 256):∃ v H',AFn Tryz.prog 209 0 [.base (.int .u64 (n:Int))] mt v H'∧∃ k:Int,v=.base (.int .i64 k)∧H'=mt:=by
 refine AFn.ex Tryz.func209 rfl rfl (Nat.le_of_ble_eq_true rfl) ?_
 have g1:decide ((n:Int) ≥ 4294967296)=false:=decide_eq_false (by omega)
 have g2:decide ((n:Int) ≥ 65536)=false:=decide_eq_false (by omega)
 have g3:decide ((n:Int) ≥ 256)=false:=decide_eq_false (by omega)
 refine Wq<|qW 0 1 rfl<|qA rfl<|Nl<|Wq<|Wq<|qW 5 7 rfl<|qM rfl<|qGe rfl<|Nl<|Wo rfl ‹_›<|Wu<|Wq<|Wq<|qW 23 25 rfl<|qM rfl<|qGe rfl<|Nl<|Wo rfl ‹_›<|Wu<|Wq<|Wq<|qW 43 45 rfl<|qM rfl<|qGe rfl<|Nl<|Wo rfl ‹_›<|Wu<|Wq<|qW 63 70 rfl<|qM rfl<|qM rfl<|Od rfl rfl (Ci rfl rfl ty34 ty5 (IntWalk.u8_in _ (by omega)))<|Od rfl rfl (LO.indexStr rfl rfl rfl rfl ty9 (ba_get (Nat.lt_of_lt_of_le hn (Nat.le_of_ble_eq_true (by kernel_rfl)))))<|Od rfl rfl (LO.conv rfl rfl ty5 ty3)<|Od rfl rfl (LO.add rfl rfl rfl)<|qA rfl<|Nl<|Wz ⟨.inl rfl,_,mt,(Rc (Rt0 rfl) Rv),aM,?_⟩
 exact ⟨_,rfl,rfl⟩
theorem len_any (n:Nat) (hn:n < 256):∃ v H',AFn Tryz.prog 144 0 [.base (.int .u64 (n:Int))] mt v H'∧∃ k:Int,v=.base (.int .i64 k)∧H'=mt:=by
 refine AFn.ex Tryz.func144 rfl rfl (Nat.le_of_ble_eq_true rfl) ?_
 obtain ⟨_,_,h1,k,rfl,rfl⟩:=len64_any n hn
 refine Wq<|qW 0 1 rfl<|qA rfl<|Nl<|Wq<|Wo rfl rfl<|Wu<|Wq<|qW 13 16 rfl<|qM rfl<|qY rfl (h1) fok209 rfl<|qA rfl<|Nl<|Wz ⟨.inl rfl,_,mt,(Rc (Rt0 rfl) Rv),aM,?_⟩
 exact ⟨k,rfl,rfl⟩
def cmpFn:AV:=.base (.func (.func 88) #[] #[])
structure SameO (m l:List ObjR):Prop where
 len:m.length=l.length
 mem:∀ o,o∈m↔o∈l
theorem SameO.refl (l:List ObjR):SameO l l:=⟨rfl,fun _=>Iff.rfl⟩
theorem SameO.swap {m l:List ObjR} (h:SameO m l) {j:Nat} (hj:j + 1 < m.length):SameO ((m.set (j + 1) (m[j]'(by omega))).set j m[j + 1]) l :=
 ⟨by simpa using h.len,fun o=>(List.set_set_perm (by omega) (by omega)).mem_iff.trans (h.mem o)⟩
set_option maxHeartbeats 2000000 in
theorem insertO_any (l:List ObjR) (h0:0 < l.length) (hl:l.length≤12):∃ v H',AFn Tryz.prog 212 1 [.osl 0 0 l.length 6,.base (.int .i64 0),.base (.int .i64 (l.length:Int)),cmpFn] (up mt 0 (some (objsC l))) v H'∧∃ m:List ObjR,SameO m l∧v=.tup []∧H'=up mt 0 (some (objsC m)):=by
 refine AFn.ex Tryz.func212 rfl rfl (Nat.le_of_ble_eq_true rfl) ?_
 unfold cmpFn
 refine Wq<|qW 1 4 rfl<|qM rfl<|qZ rfl (iW _ (by omega))<|qA rfl<|Nl ?_
 rw [show (0:Int) + 1=((1:Nat):Int) from rfl]
 refine Wb<|W.rename [(0,0)] 1 (by decide) ?_ ?_ (W.loop_ind (α:=Nat × List ObjR) (fun x=>l.length - x.1) 1 (fun x=>up (up (up (up (up mt 0 (some (.osl 0 0 l.length 6))) 1 (some (.base (.int .i64 0)))) 2 (some (.base (.int .i64 (l.length:Int))))) 3 (some (.base (.func (.func 88) #[] #[])))) 8 (some (.base (.int .i64 (x.1:Int))))) (fun x=>up mt 0 (some (objsC x.2))) (fun x=>(1≤x.1∧x.1≤l.length)∧SameO x.2 l) (1,l) (show (1≤1∧1≤l.length)∧SameO l l from ⟨⟨by omega,by omega⟩,SameO.refl l⟩) ?_)
 ·exact aR (aR (aR (aR (aI aM))))
 ·exact aU (kP rfl (objsC_pure _)) aM
 rintro ⟨i,m⟩ hIA ihA
 try (dsimp only at hIA)
 try dsimp only
 obtain ⟨⟨hi1,hil⟩,hm⟩:=hIA
 by_cases hc:i < l.length
 ·have g1:decide ((i:Int) < (l.length:Int))=true:=decide_eq_true (by omega)
  have hii:(i:Int) + 1=((i + 1:Nat):Int):=by omega
  refine Wq<|Wq<|qW 8 11 rfl<|qM rfl<|qM rfl<|qK rfl<|Nl<|Wt rfl ‹_›<|Wu<|Wq<|Wb<|Wq<|qW 15 17 rfl<|qM rfl<|qA rfl<|Nl<|Wb<|W.rename [(0,0)] 1 (by decide) ?_ ?_ (W.loop_ind (α:=Nat × List ObjR) (fun x=>x.1) 1 (fun x=>up (up (up (up (up (up mt 0 (some (.osl 0 0 l.length 6))) 1 (some (.base (.int .i64 0)))) 2 (some (.base (.int .i64 (l.length:Int))))) 3 (some (.base (.func (.func 88) #[] #[])))) 8 (some (.base (.int .i64 (i:Int))))) 9 (some (.base (.int .i64 (x.1:Int))))) (fun x=>up mt 0 (some (objsC x.2))) (fun x=>x.1≤i∧SameO x.2 l) (i,m) (show i≤i∧SameO m l from ⟨by omega,hm⟩) ?_)
  ·exact aR (aR (aR (aR (aR (aI aM)))))
  ·exact aU (kP rfl (objsC_pure _)) aM
  rintro ⟨j,m⟩ hIB ihB
  try (dsimp only at hIB)
  try dsimp only
  obtain ⟨hji,hm⟩:=hIB
  by_cases hj0:0 < j
  ·obtain ⟨k,hk⟩:∃ k,j=k + 1:=⟨j - 1,by omega⟩
   have g2:decide ((j:Int) > 0)=true:=decide_eq_true (by omega)
   have hjj:(j:Int) - 1=(k:Int):=by omega
   have hml:=hm.len
   have hk1:j < m.length:=by omega
   have hk0:k < m.length:=by omega
   have hsw:SameO ((m.set j m[k]).set k m[j]) l:=by subst hk;exact hm.swap hk1
   have ht1:=objs_tk0 hk1
   have ht0:=objs_tk0 hk0
   have hs1:=objs_sp (l:=m) (i:=j) m[k] hk1
   have hs2:=objs_sp (l:=m.set j m[k]) (i:=k) m[j] (by simpa using hk0)
   have hcm:=compare_any m[j] m[k]
   generalize m[j]=a at hsw ht1 hs1 hs2 hcm
   generalize m[k]=b at hsw ht0 hs1 hs2 hcm
   rcases Int.lt_or_le (cmpO a b) 0 with hlt|hlt
   case' inl =>
    have g3:decide (cmpO a b < 0)=true:=decide_eq_true hlt
    refine Wq<|Wq<|Wd 21 38 (by decide) rfl mixed rfl<|qM rfl<|qM rfl<|qGt rfl<|qM rfl<|gM rfl ‹_›<|gM rfl ‹_›<|gM rfl ‹_›<|qU rfl ‹_› rfl (Ia rfl rfl rfl rfl ty30 ty40 (by omega))<|gG rfl ‹_› ty40 rfl ht1<|gM rfl ‹_›<|gM rfl ‹_›<|qU rfl ‹_› rfl (LO.sub_in rfl rfl rfl (iW _ (by omega)))<|qU rfl ‹_› rfl (Ia rfl rfl rfl hjj ty30 ty40 (by omega))<|gG rfl ‹_› ty40 rfl ht0<|qU rfl ‹_› rfl (LO.callF (fr:=[]) rfl rfl hcm fok88 (.cons rfl (.pure rfl) (.cons rfl (.pure rfl) .nil)) rfl)<|gK rfl ‹_›<|qT rfl ‹_› rfl<|Nl ⟨by kernel_rfl,(Wt rfl ‹_›<|Wu<|Wq<|Wb<|Wd 42 60 (by decide) rfl mixed rfl<|qM rfl<|qM rfl<|qM rfl<|qM rfl<|Od rfl rfl (LO.sub_in rfl rfl rfl (iW _ (by omega)))<|qM rfl<|qM rfl<|Od rfl rfl (LO.sub_in rfl rfl rfl (iW _ (by omega)))<|Od rfl rfl (Ia rfl rfl rfl hjj ty30 ty40 (by omega))<|qG rfl ty40 rfl ht0<|qM rfl<|qM rfl<|Od rfl rfl (Ia rfl rfl rfl rfl ty30 ty40 (by omega))<|qG rfl ty40 rfl ht1<|Od rfl rfl (Ia rfl rfl rfl rfl ty30 ty40 (by omega))<|qS rfl ty40 hs1 rfl<|Od rfl rfl (Ia rfl rfl rfl hjj ty30 ty40 (by omega))<|qS rfl ty40 hs2 rfl<|Nl ⟨by kernel_rfl,(qW 64 67 rfl<|qM rfl<|Od rfl rfl (LO.sub_in rfl rfl rfl (iW _ (by omega)))<|qA rfl<|Nl ?_)⟩)⟩
    rw [hjj]
    refine WL.rename [(0,0)] 1 (by decide) ?_ ?_ (ihB (k,((m.set j b).set k a)) (show k < j from by omega) (show k≤i∧SameO ((m.set j b).set k a) l from ⟨by omega,hsw⟩))
    ·exact aR (aR (aR (aR (aR (aI aM)))))
    ·exact aU (kP rfl (objsC_pure _)) aM
   case' inr =>
    have g3:decide (cmpO a b < 0)=false:=decide_eq_false (by omega)
    refine Wq<|Wq<|Wd 21 38 (by decide) rfl mixed rfl<|qM rfl<|qM rfl<|qGt rfl<|qM rfl<|gM rfl ‹_›<|gM rfl ‹_›<|gM rfl ‹_›<|qU rfl ‹_› rfl (Ia rfl rfl rfl rfl ty30 ty40 (by omega))<|gG rfl ‹_› ty40 rfl ht1<|gM rfl ‹_›<|gM rfl ‹_›<|qU rfl ‹_› rfl (LO.sub_in rfl rfl rfl (iW _ (by omega)))<|qU rfl ‹_› rfl (Ia rfl rfl rfl hjj ty30 ty40 (by omega))<|gG rfl ‹_› ty40 rfl ht0<|qU rfl ‹_› rfl (LO.callF (fr:=[]) rfl rfl hcm fok88 (.cons rfl (.pure rfl) (.cons rfl (.pure rfl) .nil)) rfl)<|gK rfl ‹_›<|qT rfl ‹_› rfl<|Nl ⟨by kernel_rfl,(Wo rfl ‹_›<|Wx ?_)⟩
    clear ihB
    refine qW 71 74 rfl<|qM rfl<|qZ rfl (iW _ (by omega))<|qA rfl<|Nl ?_
    rw [hii]
    refine WL.rename [(0,0)] 1 (by decide) ?_ ?_ (ihA ((i + 1),m) (show l.length - (i + 1) < l.length - i from by omega) (show (1≤(i + 1)∧(i + 1)≤l.length)∧SameO m l from ⟨⟨by omega,by omega⟩,hm⟩))
    ·exact aR (aR (aR (aR (aI aM))))
    ·exact aU (kP rfl (objsC_pure _)) aM
  ·have g2:decide ((j:Int) > 0)=false:=decide_eq_false (by omega)
   clear ihB
   refine Wq<|Wq<|Wd 21 38 (by decide) rfl mixed rfl<|qM rfl<|qM rfl<|qGt rfl<|qM rfl<|qD rfl ‹_› rfl<|qD rfl ‹_› rfl<|qD rfl ‹_› rfl<|qD rfl ‹_› rfl<|qD rfl ‹_› rfl<|qD rfl ‹_› rfl<|qD rfl ‹_› rfl<|qD rfl ‹_› rfl<|qD rfl ‹_› rfl<|qD rfl ‹_› rfl<|qD rfl ‹_› rfl<|qD rfl ‹_› rfl<|qP rfl ‹_› rfl<|Nl ⟨by kernel_rfl,(Wo rfl rfl<|Wx<|qW 71 74 rfl<|qM rfl<|qZ rfl (iW _ (by omega))<|qA rfl<|Nl ?_)⟩
   rw [hii]
   refine WL.rename [(0,0)] 1 (by decide) ?_ ?_ (ihA ((i + 1),m) (show l.length - (i + 1) < l.length - i from by omega) (show (1≤(i + 1)∧(i + 1)≤l.length)∧SameO m l from ⟨⟨by omega,by omega⟩,hm⟩))
   ·exact aR (aR (aR (aR (aI aM))))
   ·exact aU (kP rfl (objsC_pure _)) aM
 ·have g1:decide ((i:Int) < (l.length:Int))=false:=decide_eq_false (by omega)
  refine Wq<|Wq<|qW 8 11 rfl<|qM rfl<|qM rfl<|qK rfl<|Nl<|Wo rfl ‹_›<|Wx ?_
  exact ⟨.inr rfl,_,up mt 0 (some (objsC m)),RVs.nil,all_up rfl all_mt,m,hm,rfl,rfl⟩
set_option maxHeartbeats 1000000 in
theorem pdqO_any (l:List ObjR) (lim:Int) (h0:0 < l.length) (hl:l.length≤12):∃ v H',AFn Tryz.prog 153 1 [.osl 0 0 l.length 6,.base (.int .i64 0),.base (.int .i64 (l.length:Int)),.base (.int .i64 lim),cmpFn] (up mt 0 (some (objsC l))) v H'∧∃ m:List ObjR,SameO m l∧v=.tup []∧H'=up mt 0 (some (objsC m)):=by
 refine AFn.ex Tryz.func153 rfl rfl (Nat.le_of_ble_eq_true rfl) ?_
 obtain ⟨_,_,hins,m,hm,rfl,rfl⟩:=insertO_any l h0 hl
 have hne:=objsC_ne h0
 have g1:decide ((l.length:Int)≤12)=true:=decide_eq_true (by omega)
 unfold cmpFn at hins ⊢
 refine Wq<|qW 1 2 rfl<|qA rfl<|Nl<|Wq<|qW 6 7 rfl<|qA rfl<|Nl<|Wb<|W.rename [(0,0)] 1 (by decide) ?_ ?_ (W.loop_ind (α:=Nat) (fun x=>x) 1 (fun x=>up (up (up (up (up (up (up mt 0 (some (.osl 0 0 l.length 6))) 1 (some (.base (.int .i64 0)))) 2 (some (.base (.int .i64 (l.length:Int))))) 3 (some (.base (.int .i64 lim)))) 4 (some (.base (.func (.func 88) #[] #[])))) 10 (some (.base (.bool true)))) 11 (some (.base (.bool true)))) (fun x=>up mt 0 (some (objsC l))) (fun x=>x=0) 0 (show 0=0 from rfl) ?_)
 ·exact aR (aR (aR (aR (aR (aR (aI aM))))))
 ·exact aU (kP rfl (objsC_pure _)) aM
 rintro k hIA ihA
 try (dsimp only at hIA)
 try dsimp only
 clear ihA
 refine Wb<|Wq<|qW 11 15 rfl<|qM rfl<|qM rfl<|Od rfl rfl (LO.sub_in rfl rfl rfl (iW _ (by omega)))<|qA rfl<|Nl ?_
 rw [Int.sub_zero]
 refine Wq<|Wq<|qW 19 21 rfl<|qM rfl<|qLe rfl<|Nl<|Wt rfl ‹_›<|Wq<|qW 25 30 rfl<|qM rfl<|qM rfl<|qM rfl<|qM rfl<|Od rfl rfl (C1 (fr:=[]) rfl rfl (hins) fok212 (.osl rfl rfl (.cons rfl (.pure rfl) (.cons rfl (.pure rfl) (.cons rfl (.pure rfl) .nil)))) rfl (objsC_pure _) (objsC_pure _) hne (by decide) rfl)<|Nl<|Wz ⟨.inl rfl,_,(up mt 0 (some (objsC m))),Rv,(aU rfl aM),?_⟩
 exact ⟨m,hm,rfl,rfl⟩
theorem sortO_any (l:List ObjR) (h0:0 < l.length) (hl:l.length≤12):∃ v H',AFn Tryz.prog 87 1 [.osl 0 0 l.length 6,cmpFn] (up mt 0 (some (objsC l))) v H'∧∃ m:List ObjR,SameO m l∧v=.tup []∧H'=up mt 0 (some (objsC m)):=by
 refine AFn.ex Tryz.func87 rfl rfl (Nat.le_of_ble_eq_true rfl) ?_
 obtain ⟨_,_,hlen,k,rfl,rfl⟩:=len_any l.length (by omega)
 obtain ⟨_,_,hpd,m,hm,rfl,rfl⟩:=pdqO_any l k h0 hl
 have hne:=objsC_ne h0
 unfold cmpFn at hpd ⊢
 refine Wq<|qW 1 4 rfl<|qM rfl<|Od rfl rfl (LO.len rfl rfl ty30)<|qA rfl<|Nl<|qW 8 15 rfl<|qM rfl<|qM rfl<|qM rfl<|Od rfl rfl (Ci rfl rfl ty3 ty151 (IntWalk.u64_in _ (by omega)))<|qY rfl (hlen) fok144 rfl<|qM rfl<|Od rfl rfl (C1 (fr:=[]) rfl rfl (hpd) fok153 (.osl rfl rfl (.cons rfl (.pure rfl) (.cons rfl (.pure rfl) (.cons rfl (.pure rfl) (.cons rfl (.pure rfl) .nil))))) rfl (objsC_pure _) (objsC_pure _) hne (by decide) rfl)<|Nl ?_
 exact ⟨.inr rfl,_,up mt 0 (some (objsC m)),RVs.nil,all_up rfl all_mt,m,hm,rfl,rfl⟩
def eqObj (a b:ObjR):Bool:=eqPre a.p b.p && a.mx == b.mx && a.asn == b.asn
theorem eqObj_iff (a b:ObjR):eqObj a b=true↔a=b:=by
 obtain ⟨⟨⟨v,h,o⟩,n⟩,m,s⟩:=a
 obtain ⟨⟨⟨v',h',o'⟩,n'⟩,m',s'⟩:=b
 simp only [eqObj,eqPre,eqA,Bool.and_eq_true,beq_iff_eq,ObjR.mk.injEq,Pre.mk.injEq,Ad.mk.injEq,and_assoc]
theorem eqObj_in (d:Nat) (a b:ObjR) (w:World):(Op.equalIn (d + 4) 40 (.agg #[.bool a.p.ad.v6,.int .u64 a.p.ad.hi,.int .u64 a.p.ad.lo,.int .i64 a.p.len,.int .i64 a.mx,.int .i64 a.asn]) (.agg #[.bool b.p.ad.v6,.int .u64 b.p.ad.hi,.int .u64 b.p.ad.lo,.int .i64 b.p.len,.int .i64 b.mx,.int .i64 b.asn])).run Tryz.prog w=.ok (eqObj a b) w:=by
 rw [run_equalIn_struct w (d + 3) 40 _ _ (by kernel_rfl) (by kernel_rfl)]
 have hu:=Tryz.underlying40
 have hua:=Tryz.underlying38
 have hi:=Tryz.underlying3
 have sa:∀ w:World,(sizeOf 38).run Tryz.prog w=.ok 4 w:=fun w=>(ty38).sizeOf w
 have si:∀ w:World,(sizeOf 3).run Tryz.prog w=.ok 1 w:=fun w=>(ty3).sizeOf w
 have ea:=fun w=>eqPre_in d a.p b.p w
 simp [Program.fieldsOf,hu,Op.eqFields,part,isAgg,run_underlying hua,run_underlying hi,sa,si,run_equalIn_int _ _ _ _ _ _ _ hi,ea]
 unfold eqObj
 by_cases h:a.mx=b.mx<;>by_cases h2:a.asn=b.asn<;>cases eqPre a.p b.p<;>simp [h,h2]
theorem LO.eql_obj {o:Oper} {E:Operand→Option AV} {H:Hp} {f:Nat} {ty:TypeId} {x y:Operand} (a b:ObjR) (ho:o.op=.binOp .eql 40 x y ty) (hx:E x=some (.agg (objC a))) (hy:E y=some (.agg (objC b))):LO Tryz.prog o E H f [] [] (.base (.bool (eqObj a b))) H :=
 LO.eqBases false [.bool a.p.ad.v6,.int .u64 a.p.ad.hi,.int .u64 a.p.ad.lo,.int .i64 a.p.len,.int .i64 a.mx,.int .i64 a.asn] [.bool b.p.ad.v6,.int .u64 b.p.ad.hi,.int .u64 b.p.ad.lo,.int .i64 b.p.len,.int .i64 b.mx,.int .i64 b.asn] ho hx hy rfl rfl (guardRun x y false (by kernel_rfl)) (eqObj_in 9996 a b)
theorem LO.neq_obj {o:Oper} {E:Operand→Option AV} {H:Hp} {f:Nat} {ty:TypeId} {x y:Operand} (a b:ObjR) (ho:o.op=.binOp .neq 40 x y ty) (hx:E x=some (.agg (objC a))) (hy:E y=some (.agg (objC b))):LO Tryz.prog o E H f [] [] (.base (.bool (!(eqObj a b)))) H :=
 LO.eqBases true [.bool a.p.ad.v6,.int .u64 a.p.ad.hi,.int .u64 a.p.ad.lo,.int .i64 a.p.len,.int .i64 a.mx,.int .i64 a.asn] [.bool b.p.ad.v6,.int .u64 b.p.ad.hi,.int .u64 b.p.ad.lo,.int .i64 b.p.len,.int .i64 b.mx,.int .i64 b.asn] ho hx hy rfl rfl (guardRun x y true (by kernel_rfl)) (eqObj_in 9996 a b)
theorem objs_tk2 {l:List ObjR} {k j:Nat} (h:k + j < l.length):Tk (objsC l) (0 + k * 6 + j * 6) 6 (objC l[k + j]):=by
 rw [show 0 + k * 6 + j * 6=0 + (k + j) * 6 from by omega];exact objs_tk0 h
def SameM (m l:List ObjR):Prop:=∀ o,o∈m↔o∈l
theorem SameM.dup {l q:List ObjR} {k:Nat} (h:SameM q (l.take k)) (hk:k < l.length) (hm:l[k]∈l.take k):SameM q (l.take (k + 1)):=fun o=>by
 rw [take_s1 hk,List.mem_append,List.mem_singleton,h o]
 exact ⟨.inl,fun h2=>h2.elim id fun h3=>h3 ▸ hm⟩
theorem SameM.add {l q:List ObjR} {k:Nat} (h:SameM q (l.take k)) (hk:k < l.length):SameM (q++[l[k]]) (l.take (k + 1)):=fun o=>by
 rw [take_s1 hk,List.mem_append,List.mem_append,h o]
theorem mem_takeR {l:List ObjR} {j k:Nat} (h:j < k) (hl:j < l.length):l[j]∈l.take k:=by
 rw [List.mem_take_iff_getElem]
 exact ⟨j,by omega,rfl⟩
set_option maxHeartbeats 2000000 in
theorem compactO_any (l:List ObjR) (h0:0 < l.length) (hl:l.length≤1000):∃ v H',AFn Tryz.prog 89 1 [.osl 0 0 l.length 6] (up mt 0 (some (objsC l))) v H'∧∃ m:List ObjR,(SameM m l∧m.length≤l.length)∧v=.isl (objsC m) m.length∧H'=mt:=by
 refine AFn.ex Tryz.func89 rfl rfl (Nat.le_of_ble_eq_true rfl) ?_
 by_cases h2:l.length < 2
 ·have g0:decide ((l.length:Int) < 2)=true:=decide_eq_true (by omega)
  refine Wq<|qW 1 2 rfl<|qA rfl<|Nl<|Wq<|Wq<|qW 6 9 rfl<|qM rfl<|Od rfl rfl (LO.len rfl rfl ty30)<|qK rfl<|Nl<|Wt rfl ‹_›<|Wq<|qW 13 15 rfl<|qM rfl<|qA rfl<|Nl<|Wy (t:=2) rfl rfl (objs_all rfl) (objsC_pure _)<|Wz ⟨.inl rfl,_,mt,(Rc (Rt0 rfl) Rv),aM,?_⟩
  exact ⟨l,⟨fun _=>Iff.rfl,Nat.le_refl _⟩,rfl,rfl⟩
 have g0:decide ((l.length:Int) < 2)=false:=decide_eq_false (by omega)
 refine Wq<|qW 1 2 rfl<|qA rfl<|Nl<|Wq<|Wq<|qW 6 9 rfl<|qM rfl<|Od rfl rfl (LO.len rfl rfl ty30)<|qK rfl<|Nl<|Wo rfl ‹_›<|Wu<|Wq<|Wq<|qW 19 20 rfl<|qA rfl<|Nl<|Wb<|W.rename [(0,0)] 1 (by decide) ?_ ?_ (W.loop_ind (α:=Nat) (fun x=>l.length - x) 1 (fun x=>up (up mt 0 (some (.osl 0 0 l.length 6))) 3 (some (.base (.int .i64 (x:Int))))) (fun x=>up mt 0 (some (objsC l))) (fun x=>1≤x∧x≤l.length) 1 (show 1≤1∧1≤l.length from ⟨by omega,by omega⟩) ?_)
 ·exact aR (aI aM)
 ·exact aU (kP rfl (objsC_pure _)) aM
 rintro k hIA ihA
 try (dsimp only at hIA)
 try dsimp only
 obtain ⟨hk1,hkl⟩:=hIA
 by_cases hc:k < l.length
 ·have g1:decide ((k:Int) < (l.length:Int))=true:=decide_eq_true (by omega)
  have hkk:(k:Int) + 1=((k + 1:Nat):Int):=by omega
  obtain ⟨k0,hk0⟩:∃ k0,k=k0 + 1:=⟨k - 1,by omega⟩
  have hkm:(k:Int) - 1=(k0:Int):=by omega
  have ht1:=objs_tk0 hc
  have ht0:=objs_tk0 (l:=l) (k:=k0) (by omega)
  have heq:eqObj l[k] l[k0]=true→SameM (l.take k) (l.take (k + 1)):=fun e=>SameM.dup (fun _=>Iff.rfl) hc (by rw [(eqObj_iff _ _).1 e];exact mem_takeR (by omega) (by omega))
  obtain ⟨a,ha⟩:∃ a,l[k]=a:=⟨_,rfl⟩
  obtain ⟨b,hb⟩:∃ b,l[k0]=b:=⟨_,rfl⟩
  rw [ha] at ht1
  rw [hb] at ht0
  rw [ha,hb] at heq
  cases hq:eqObj a b with
  | false =>
   refine Wq<|Wq<|qW 24 28 rfl<|qM rfl<|qM rfl<|Od rfl rfl (LO.len rfl rfl ty30)<|qK rfl<|Nl<|Wt rfl ‹_›<|Wu<|Wq<|Wb<|Wq<|Wd 32 42 (by decide) rfl mixed rfl<|qM rfl<|qM rfl<|Od rfl rfl (Ia rfl rfl rfl rfl ty30 ty40 (by omega))<|qG rfl ty40 rfl ht1<|qM rfl<|qM rfl<|Od rfl rfl (LO.sub_in rfl rfl rfl (iW _ (by omega)))<|Od rfl rfl (Ia rfl rfl rfl hkm ty30 ty40 (by omega))<|qG rfl ty40 rfl ht0<|Od rfl rfl (LO.eql_obj a b rfl rfl rfl)<|Nl ⟨by kernel_rfl,(Wo rfl ‹_›<|Wu<|qW 123 126 rfl<|qM rfl<|qZ rfl (iW _ (by omega))<|qA rfl<|Nl ?_)⟩
   rw [hkk]
   refine WL.rename [(0,0)] 1 (by decide) ?_ ?_ (ihA (k + 1) (show l.length - (k + 1) < l.length - k from by omega) (show 1≤(k + 1)∧(k + 1)≤l.length from ⟨by omega,by omega⟩))
   ·exact aR (aI aM)
   ·exact aU (kP rfl (objsC_pure _)) aM
  | true =>
   have hS:=heq hq
   clear ihA
   refine Wq<|Wq<|qW 24 28 rfl<|qM rfl<|qM rfl<|Od rfl rfl (LO.len rfl rfl ty30)<|qK rfl<|Nl<|Wt rfl ‹_›<|Wu<|Wq<|Wb<|Wq<|Wd 32 42 (by decide) rfl mixed rfl<|qM rfl<|qM rfl<|Od rfl rfl (Ia rfl rfl rfl rfl ty30 ty40 (by omega))<|qG rfl ty40 rfl ht1<|qM rfl<|qM rfl<|Od rfl rfl (LO.sub_in rfl rfl rfl (iW _ (by omega)))<|Od rfl rfl (Ia rfl rfl rfl hkm ty30 ty40 (by omega))<|qG rfl ty40 rfl ht0<|Od rfl rfl (LO.eql_obj a b rfl rfl rfl)<|Nl ⟨by kernel_rfl,(Wt rfl ‹_›<|Wq<|qW 46 50 rfl<|qM rfl<|qM rfl<|Od rfl rfl (LO.slice (m:=k) (n:=l.length) rfl rfl (Ba rfl rfl) Bnd.no (by omega) (Nat.le_refl _) ty30 ty40)<|qA rfl<|Nl<|Wq<|Wq<|qW 54 55 rfl<|qA rfl<|Nl<|Wb<|W.rename [(0,0)] 1 (T':=up (up (up (up mt 0 (some (.osl 0 0 l.length 6))) 3 (some (.base (.int .i64 (k:Int))))) 4 (some (.osl 0 (0 + k * 6) (l.length - k) 6))) 5 (some (.base (.int .i64 (1:Int))))) (H':=up mt 0 (some (objsC l))) (by decide) ?_ ?_ ?_)⟩
   ·exact aR (aI (aR (aI aM)))
   ·exact aU (kP rfl (objsC_pure _)) aM
   refine W.loop_ind (α:=Nat × Nat × List ObjR) (fun x=>l.length - k - x.2.1) 1 (fun x=>up (up (up (up mt 0 (some (.osl 0 0 l.length 6))) 3 (some (.base (.int .i64 (x.1:Int))))) 4 (some (.osl 0 (0 + k * 6) (l.length - k) 6))) 5 (some (.base (.int .i64 (x.2.1:Int))))) (fun x=>up mt 0 (some (objsC x.2.2))) (fun x=>(1≤x.2.1∧k + x.2.1≤l.length∧x.1 + 1≤k + x.2.1)∧x.2.2.length=l.length∧x.2.2.drop (k + x.2.1 - 1)=l.drop (k + x.2.1 - 1)∧SameM (x.2.2.take x.1) (l.take (k + x.2.1))) (k,1,l) (show (1≤1∧k + 1≤l.length∧k + 1≤k + 1)∧l.length=l.length∧l.drop (k + 1 - 1)=l.drop (k + 1 - 1)∧SameM (l.take k) (l.take (k + 1)) from ⟨⟨by omega,by omega,by omega⟩,rfl,rfl,hS⟩) ?_
   rintro ⟨q,k2,m⟩ hIB ihB
   try (dsimp only at hIB)
   try dsimp only
   obtain ⟨⟨hk21,hk2l,hqk⟩,hml,hmd,hmq⟩:=hIB
   obtain ⟨k3,hk3⟩:∃ k3,k2=k3 + 1:=⟨k2 - 1,by omega⟩
   have hk3m:(k2:Int) - 1=(k3:Int):=by omega
   by_cases hc2:k + k2 < l.length
   ·have g2:decide ((k2:Int) < ((l.length - k:Nat):Int))=true:=decide_eq_true (by omega)
    have hkk2:(k2:Int) + 1=((k2 + 1:Nat):Int):=by omega
    have hqq:(q:Int) + 1=((q + 1:Nat):Int):=by omega
    have ht1:=objs_tk2 (l:=m) (k:=k) (j:=k2) (by omega)
    have ht0:=objs_tk2 (l:=m) (k:=k) (j:=k3) (by omega)
    have e1:m[k + k2]'(by omega)=l[k + k2]:=get_dropR (by rw [show k + k2=k + k2 - 1 + 1 from by omega];exact drop_stepR hmd) hc2 hml
    have e0:m[k + k3]'(by omega)=l[k + k3]'(by omega):=get_dropR (by rw [show k + k3=k + k2 - 1 from by omega];exact hmd) (by omega) hml
    have hmd2:m.drop (k + (k2 + 1) - 1)=l.drop (k + (k2 + 1) - 1):=by
     rw [show k + (k2 + 1) - 1=k + k2 - 1 + 1 from by omega];exact drop_stepR hmd
    have hdup:eqObj (l[k + k2]) (l[k + k3]'(by omega))=true→SameM (m.take q) (l.take (k + (k2 + 1))):=fun e=>(show SameM (m.take q) (l.take (k + k2 + 1)) from SameM.dup hmq hc2 (by rw [(eqObj_iff _ _).1 e];exact mem_takeR (by omega) (by omega)))
    have hadd:=SameM.add hmq hc2
    rw [e1] at ht1
    rw [e0] at ht0
    obtain ⟨a,ha⟩:∃ a,l[k + k2]=a:=⟨_,rfl⟩
    obtain ⟨b,hb⟩:∃ b,l[k + k3]'(by omega)=b:=⟨_,rfl⟩
    rw [ha] at ht1 hadd
    rw [hb] at ht0
    rw [ha,hb] at hdup
    have hsp:=objs_sp (l:=m) (i:=q) a (by omega)
    cases hq2:eqObj a b with
    | true =>
     have hq3:(!(eqObj a b))=false:=by rw [hq2];rfl
     have hd:=hdup hq2
     refine Wq<|Wq<|qW 59 63 rfl<|qM rfl<|qM rfl<|Od rfl rfl (LO.len rfl rfl ty30)<|qK rfl<|Nl<|Wt rfl ‹_›<|Wu<|Wq<|Wb<|Wq<|Wd 67 77 (by decide) rfl mixed rfl<|qM rfl<|qM rfl<|Od rfl rfl (Ia rfl rfl rfl rfl ty30 ty40 (by omega))<|qG rfl ty40 rfl ht1<|qM rfl<|qM rfl<|Od rfl rfl (LO.sub_in rfl rfl rfl (iW _ (by omega)))<|Od rfl rfl (Ia rfl rfl rfl hk3m ty30 ty40 (by omega))<|qG rfl ty40 rfl ht0<|Od rfl rfl (LO.neq_obj a b rfl rfl rfl)<|Nl ⟨by kernel_rfl,(Wo rfl ‹_›<|Wu<|qW 100 103 rfl<|qM rfl<|qZ rfl (iW _ (by omega))<|qA rfl<|Nl ?_)⟩
     rw [hkk2]
     refine WL.rename [(0,0)] 1 (by decide) ?_ ?_ (ihB (q,(k2 + 1),m) (show l.length - k - (k2 + 1) < l.length - k - k2 from by omega) (show (1≤(k2 + 1)∧k + (k2 + 1)≤l.length∧q + 1≤k + (k2 + 1))∧m.length=l.length∧m.drop (k + (k2 + 1) - 1)=l.drop (k + (k2 + 1) - 1)∧SameM (m.take q) (l.take (k + (k2 + 1))) from ⟨⟨by omega,by omega,by omega⟩,hml,hmd2,hd⟩))
     ·exact aR (aI (aR (aI aM)))
     ·exact aU (kP rfl (objsC_pure _)) aM
    | false =>
     have hq3:(!(eqObj a b))=true:=by rw [hq2];rfl
     refine Wq<|Wq<|qW 59 63 rfl<|qM rfl<|qM rfl<|Od rfl rfl (LO.len rfl rfl ty30)<|qK rfl<|Nl<|Wt rfl ‹_›<|Wu<|Wq<|Wb<|Wq<|Wd 67 77 (by decide) rfl mixed rfl<|qM rfl<|qM rfl<|Od rfl rfl (Ia rfl rfl rfl rfl ty30 ty40 (by omega))<|qG rfl ty40 rfl ht1<|qM rfl<|qM rfl<|Od rfl rfl (LO.sub_in rfl rfl rfl (iW _ (by omega)))<|Od rfl rfl (Ia rfl rfl rfl hk3m ty30 ty40 (by omega))<|qG rfl ty40 rfl ht0<|Od rfl rfl (LO.neq_obj a b rfl rfl rfl)<|Nl ⟨by kernel_rfl,(Wt rfl ‹_›<|Wq<|qW 81 89 rfl<|qM rfl<|qM rfl<|qM rfl<|qM rfl<|Od rfl rfl (Ia rfl rfl rfl rfl ty30 ty40 (by omega))<|qG rfl ty40 rfl ht1<|Od rfl rfl (Ia rfl rfl rfl rfl ty30 ty40 (by omega))<|qS rfl ty40 hsp rfl<|Nl<|qW 93 96 rfl<|qM rfl<|qZ rfl (iW _ (by omega))<|qA rfl<|Nl ?_)⟩
     rw [hqq]
     refine qW 100 103 rfl<|qM rfl<|qZ rfl (iW _ (by omega))<|qA rfl<|Nl ?_
     rw [hkk2]
     refine WL.rename [(0,0)] 1 (by decide) ?_ ?_ (ihB ((q + 1),(k2 + 1),(m.set q a)) (show l.length - k - (k2 + 1) < l.length - k - k2 from by omega) (show (1≤(k2 + 1)∧k + (k2 + 1)≤l.length∧(q + 1) + 1≤k + (k2 + 1))∧(m.set q a).length=l.length∧(m.set q a).drop (k + (k2 + 1) - 1)=l.drop (k + (k2 + 1) - 1)∧SameM ((m.set q a).take (q + 1)) (l.take (k + (k2 + 1))) from ⟨⟨by omega,by omega,by omega⟩,by simpa using hml,by rw [drop_setR (by omega)];exact hmd2,by rw [take_setR (by omega)];exact hadd⟩))
     ·exact aR (aI (aR (aI aM)))
     ·exact aU (kP rfl (objsC_pure _)) aM
   ·have g2:decide ((k2:Int) < ((l.length - k:Nat):Int))=false:=decide_eq_false (by omega)
    rw [show k + k2=l.length from by omega,List.take_length] at hmq
    have hlen:(m.take q).length=q:=by rw [List.length_take];omega
    have hcl:=objs_clr (l:=m) (i:=q) (by omega)
    rw [hml] at hcl
    clear ihB
    refine Wq<|Wq<|qW 59 63 rfl<|qM rfl<|qM rfl<|Od rfl rfl (LO.len rfl rfl ty30)<|qK rfl<|Nl<|Wo rfl ‹_›<|Wx<|Wq<|qW 107 111 rfl<|qM rfl<|qM rfl<|Od rfl rfl (LO.slice (m:=q) (n:=l.length) rfl rfl (Ba rfl rfl) Bnd.no (by omega) (Nat.le_refl _) ty30 ty40)<|On rfl rfl (LO.clear rfl rfl rfl hcl ty30 ty40 (by decide) (by omega))<|Nl<|Wq<|qW 115 119 rfl<|qM rfl<|qM rfl<|Od rfl rfl (LO.slice (m:=0) (n:=q) rfl rfl Bnd.no (Ba rfl rfl) (by omega) (by omega) ty30 ty40)<|qA rfl<|Nl<|Wy (t:=2) rfl rfl (objs_pre (n:=q - 0) (by omega)) (objsC_pure _)<|Wz ⟨.inl rfl,_,mt,(Rc (Rt0 rfl) Rv),aM,?_⟩
    exact ⟨m.take q,⟨hmq,by omega⟩,by rw [hlen];rfl,rfl⟩
 ·have g1:decide ((k:Int) < (l.length:Int))=false:=decide_eq_false (by omega)
  refine Wq<|Wq<|qW 24 28 rfl<|qM rfl<|qM rfl<|Od rfl rfl (LO.len rfl rfl ty30)<|qK rfl<|Nl<|Wo rfl ‹_›<|Wx<|Wq<|qW 130 132 rfl<|qM rfl<|qA rfl<|Nl<|Wy (t:=2) rfl rfl (objs_all rfl) (objsC_pure _)<|Wz ⟨.inl rfl,_,mt,(Rc (Rt0 rfl) Rv),aM,?_⟩
  exact ⟨l,⟨fun _=>Iff.rfl,Nat.le_refl _⟩,rfl,rfl⟩
theorem oclone_any (l:List ObjR) (h:0 < l.length) (hl:l.length≤1000):AFn Tryz.prog 86 0 [.isl (objsC l) l.length] mt (.osl 0 0 l.length 6) (up mt 0 (some (objsC l))):=by
 refine AFn.eq Tryz.func86 rfl rfl (Nat.le_of_ble_eq_true rfl) ?_
 have hz:=objsC_len l
 refine Wq<|qW 0 1 rfl<|qA rfl<|Nl<|Wq<|Wq<|qW 5 7 rfl<|qM rfl<|Od rfl rfl (LO.eqNilI rfl rfl rfl h rfl ty30)<|Nl<|Wo rfl rfl<|Wu<|Wq<|qW 16 20 rfl<|Od rfl rfl (LO.buildSlice rfl ty30 ty40 (by decide) (by decide) .nil)<|qM rfl<|Od rfl rfl (Lap rfl rfl (Ssi rfl rfl hz) rfl (Tl rfl) ty30 ty30 ty40 (by decide) (by omega) (by omega) (by decide))<|qA rfl<|Nl ?_
 rw [List.nil_append,show 0 + l.length=l.length from Nat.zero_add _]
 refine W.rename [(0,18)] 1 (T':=up mt 2 (some (.osl 0 0 l.length 6))) (H':=up mt 0 (some (objsC l))) (by decide) ?_ ?_ ?_
 ·exact aI aM
 ·exact aU (kP rfl (objsC_pure _)) aM
 refine Wz ⟨.inl rfl,_,(up mt 0 (some (objsC l))),(Rc (Rt0 rfl) Rv),(aU rfl aM),?_⟩
 exact ⟨rfl,rfl⟩
theorem oclone_nil:AFn Tryz.prog 86 0 [.isl [] 0] mt (.isl [] 0) mt:=by
 refine AFn.empty0 fun A cap=>?_
 refine AFn.eq Tryz.func86 rfl rfl (Nat.le_of_ble_eq_true rfl) ?_
 cases A with
 | none =>
  refine Wq<|qW 0 1 rfl<|qA rfl<|Nl<|Wq<|Wq<|qW 5 7 rfl<|qM rfl<|Od rfl rfl (LO.eqNilB rfl rfl rfl ty30)<|Nl<|Wt rfl rfl<|Wq<|qW 11 12 rfl<|qA rfl<|Nl<|W.nilt (t:=2) rfl<|Wz ⟨.inl rfl,_,mt,(Rc (Rt0 rfl) Rv),aM,?_⟩
  exact ⟨rfl,rfl⟩
 | some a =>
  refine Wq<|qW 0 1 rfl<|qA rfl<|Nl<|Wq<|Wq<|qW 5 7 rfl<|qM rfl<|Od rfl rfl (LO.eqNilB rfl rfl rfl ty30)<|Nl<|Wo rfl rfl<|Wu<|W.conv (t:=0) (y:=.isl [] 0) rfl (fun X φ w v h=>by rw [h.base_eq];exact .isl0 _ _) (Wq<|qW 16 20 rfl<|Od rfl rfl (LO.buildSlice rfl ty30 ty40 (by decide) (by decide) .nil)<|qM rfl<|Od rfl rfl (Lap rfl rfl (Ssi (m:=0) (sz:=6) rfl rfl rfl) rfl (Tl rfl) ty30 ty30 ty40 (by decide) (by decide) (by decide) (by decide))<|qA rfl<|Nl<|Wy (t:=2) rfl rfl (vs:=[]) (Tl rfl) rfl<|Wz ⟨.inl rfl,_,mt,(Rc (Rt0 rfl) Rv),aM,?_⟩)
  exact ⟨rfl,rfl⟩
theorem insertO_nil:AFn Tryz.prog 212 0 [.isl [] 0,.base (.int .i64 0),.base (.int .i64 0),cmpFn] mt (.tup []) mt:=by
 refine AFn.eq Tryz.func212 rfl rfl (Nat.le_of_ble_eq_true rfl) ?_
 unfold cmpFn
 refine Wq<|qW 0 3 rfl<|qM rfl<|qZ rfl (iW _ (by omega))<|qA rfl<|Nl<|Wb<|W.rename [] 0 (by decide) ?_ ?_ (W.loop_ind (α:=Nat) (fun x=>x) 0 (fun x=>up (up mt 2 (some (.base (.int .i64 0)))) 8 (some (.base (.int .i64 1)))) (fun x=>mt) (fun x=>x=0) 0 (show 0=0 from rfl) ?_)
 ·exact aR (aR aM)
 ·exact aM
 rintro k hIA ihA
 try (dsimp only at hIA)
 try dsimp only
 clear ihA
 refine Wq<|Wq<|qW 7 10 rfl<|qM rfl<|qM rfl<|qK rfl<|Nl<|Wo rfl rfl<|Wx ?_
 exact ⟨.inr rfl,_,mt,RVs.nil,all_mt,rfl,rfl⟩
theorem pdqO_nil (lim:Int):AFn Tryz.prog 153 0 [.isl [] 0,.base (.int .i64 0),.base (.int .i64 0),.base (.int .i64 lim),cmpFn] mt (.tup []) mt:=by
 refine AFn.eq Tryz.func153 rfl rfl (Nat.le_of_ble_eq_true rfl) ?_
 have hins:=insertO_nil
 unfold cmpFn at hins ⊢
 refine Wq<|qW 0 1 rfl<|qA rfl<|Nl<|Wq<|qW 5 6 rfl<|qA rfl<|Nl<|Wb<|W.rename [] 0 (by decide) ?_ ?_ (W.loop_ind (α:=Nat) (fun x=>x) 0 (fun x=>up (up (up (up mt 0 (some (.isl [] 0))) 1 (some (.base (.int .i64 0)))) 2 (some (.base (.int .i64 0)))) 4 (some (.base (.func (.func 88) #[] #[])))) (fun x=>mt) (fun x=>x=0) 0 (show 0=0 from rfl) ?_)
 ·exact aR (aR (aR (aR aM)))
 ·exact aM
 rintro k hIA ihA
 try (dsimp only at hIA)
 try dsimp only
 clear ihA
 refine Wb<|Wq<|qW 10 14 rfl<|qM rfl<|qM rfl<|Od rfl rfl (LO.sub_in rfl rfl rfl (iW _ (by omega)))<|qA rfl<|Nl<|Wq<|Wq<|qW 18 20 rfl<|qM rfl<|qLe rfl<|Nl<|Wt rfl rfl<|Wq<|qW 24 29 rfl<|qM rfl<|qM rfl<|qM rfl<|qM rfl<|qY rfl (hins) fok212 rfl<|Nl<|Wz ⟨.inl rfl,_,mt,Rv,aM,?_⟩
 exact ⟨rfl,rfl⟩
theorem sortO_nil:AFn Tryz.prog 87 0 [.isl [] 0,cmpFn] mt (.tup []) mt:=by
 refine AFn.eq Tryz.func87 rfl rfl (Nat.le_of_ble_eq_true rfl) ?_
 obtain ⟨_,_,hlen,k,rfl,rfl⟩:=len_any 0 (by decide)
 have hpd:=pdqO_nil k
 unfold cmpFn at hpd ⊢
 refine Wq<|qW 0 3 rfl<|qM rfl<|qH rfl ty30<|qA rfl<|Nl<|qW 7 14 rfl<|qM rfl<|qM rfl<|qM rfl<|Od rfl rfl (Ci rfl rfl ty3 ty151 (IntWalk.u64_in _ (by omega)))<|qY rfl (hlen) fok144 rfl<|qM rfl<|Od rfl rfl (C0 (fr:=[]) rfl rfl (hpd) fok153 (qArgs rfl rfl) rfl)<|Nl ?_
 exact ⟨.inr rfl,_,mt,RVs.nil,all_mt,rfl,rfl⟩
theorem compactO_nil:AFn Tryz.prog 89 0 [.isl [] 0] mt (.isl [] 0) mt:=by
 refine AFn.eq Tryz.func89 rfl rfl (Nat.le_of_ble_eq_true rfl)<|Wq<|qW 0 1 rfl<|qA rfl<|Nl<|Wq<|Wq<|qW 5 8 rfl<|qM rfl<|qH rfl ty30<|qK rfl<|Nl<|Wt rfl rfl<|Wq<|qW 12 14 rfl<|qM rfl<|qA rfl<|Nl<|Wz ⟨.inl rfl,_,mt,(Rc (Rt0 rfl) Rv),aM,?_⟩
 exact ⟨rfl,rfl⟩
theorem ordered_nil:AFn Tryz.prog 28 0 [.isl [] 0] mt (.isl [] 0) mt:=by
 refine AFn.eq Tryz.func28 rfl rfl (Nat.le_of_ble_eq_true rfl) ?_
 have h1:=oclone_nil
 have h2:=sortO_nil
 have h3:=compactO_nil
 unfold cmpFn at h2
 refine Wq<|qW 0 1 rfl<|qA rfl<|Nl<|Wq<|qW 5 8 rfl<|qM rfl<|qY rfl (h1) fok86 rfl<|qA rfl<|Nl<|Wq<|qW 12 14 rfl<|qM rfl<|qY rfl (h2) fok87 rfl<|Nl<|Wq<|qW 18 21 rfl<|qM rfl<|qY rfl (h3) fok89 rfl<|qA rfl<|Nl<|Wz ⟨.inl rfl,_,mt,(Rc (Rt0 rfl) Rv),aM,?_⟩
 exact ⟨rfl,rfl⟩
end Go.Proofs.YtbfnfgpjgdbmeaaGreatDoor
