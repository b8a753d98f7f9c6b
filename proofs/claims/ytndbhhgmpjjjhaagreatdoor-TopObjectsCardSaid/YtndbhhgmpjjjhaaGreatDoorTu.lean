/-
  What the document's making of a prefix gives for any length; what objects permit is what a table of them says. Small functions of databases: whether an address is none, all members in a row. The ports of a small database. Further operations: addresses of both kinds and prefixes compared. A Builder: made, its pointer turned about. Further operations, carried out: copies, conversions, parts of own arrays. Two great arrays among the types.
-/
import Derived.Test.YtndbhhgmpjjjhaaGreatDoorLt
import Derived.Test.YtndbhhgmpjjjhaaGreatDoorMab
import Derived.Test.YtndbhhgmpjjjhaaGreatDoorJd
import Derived.Test.YtndbhhgmpjjjhaaGreatDoorE19
import Derived.Lib.Builder
namespace Go.Proofs.YtndbhhgmpjjjhaaGreatDoor
open Go.RowKit
theorem mkbad_any (a:Ad) (n:Int) (hv:validA a.v6 a.hi a.lo=true) (hn:n < 0∨widthA a < n):AFn Tryz.prog 11 0 [.agg (adC a),.base (.int .i64 n)] mt (.tup [.agg (preC ⟨⟨false,0,0⟩,0⟩),.base (.int .i64 9)]) mt:=by
 refine AFn.eq Tryz.func11 rfl rfl (Nat.le_of_ble_eq_true rfl) ?_
 have hva:=rvalid_any a
 rw [hv] at hva
 have hwa:=width_any a
 refine Wq<|qW 0 3 rfl<|qC rfl<|qB rfl ty36<|qA rfl<|Nl<|Wq<|Wb<|Wq<|qW 7 11 rfl<|qG rfl ty34 rfl (Tl rfl)<|qY rfl (hva) fok19 rfl<|qO rfl<|qA rfl<|Nl<|Wo rfl rfl ?_
 by_cases h0:n < 0
 ·have g0:decide (n < 0)=true:=decide_eq_true h0
  refine Wq<|qW 22 31 rfl<|qM rfl<|qK rfl<|qM rfl<|qD rfl ‹_› rfl<|qD rfl ‹_› rfl<|qD rfl ‹_› rfl<|qD rfl ‹_› rfl<|qT rfl ‹_› rfl<|qA rfl<|Nl<|Wt rfl rfl<|Wq<|qW 35 38 rfl<|Od rfl rfl (Bs rfl ty36 .nil)<|qS rfl ty36 (Sl rfl) rfl<|qA rfl<|Nl<|Wz ⟨.inl rfl,_,mt,(Rc (Ra0 rfl rfl ty36 rfl (Tl rfl)) (Rc (Rt0 rfl) Rv)),aM,?_⟩
  exact ⟨rfl,rfl⟩
 ·have g0:decide (n < 0)=false:=decide_eq_false h0
  have g1:decide (n > widthA a)=true:=decide_eq_true (by omega)
  refine Wq<|qW 22 31 rfl<|qM rfl<|qK rfl<|qM rfl<|gM rfl ‹_›<|gG rfl ‹_› ty34 rfl (Tl rfl)<|gY rfl ‹_› (hwa) fok27 rfl<|gGt rfl ‹_›<|qP rfl ‹_› rfl<|qA rfl<|Nl<|Wt rfl ‹_›<|Wq<|qW 35 38 rfl<|Od rfl rfl (Bs rfl ty36 .nil)<|qS rfl ty36 (Sl rfl) rfl<|qA rfl<|Nl<|Wz ⟨.inl rfl,_,mt,(Rc (Ra0 rfl rfl ty36 rfl (Tl rfl)) (Rc (Rt0 rfl) Rv)),aM,?_⟩
  exact ⟨rfl,rfl⟩
theorem make_all (a:Ad) (n:Int) (hv:validA a.v6 a.hi a.lo=true) (h1:U64 a.hi) (h2:U64 a.lo):∃ (p:Pre) (e:Int),AFn Tryz.prog 11 0 [.agg (adC a),.base (.int .i64 n)] mt (.tup [.agg (preC p),.base (.int .i64 e)]) mt∧((e=0∧PreOk p∧p.len=n)∨e=9):=by
 by_cases h:0≤n∧n≤widthA a
 ·obtain ⟨k,rfl⟩:∃ k:Nat,n=(k:Int):=⟨n.toNat,by omega⟩
  exact ⟨_,_,make_any a k hv h1 h2 h.2,.inl ⟨rfl,mk_ok h.2,rfl⟩⟩
 ·exact ⟨_,_,mkbad_any a n hv (by omega),.inr rfl⟩
theorem tAV_pur (t:List Ent):(tAV t).pure=true:=by
 unfold tAV
 split<;>rfl
theorem tAVt_pur (t:List Ent) (v:Value):(AV.tup [tAV t,.base v]).pure=true:=by
 unfold tAV
 split<;>rfl
def presC (l:List Pre):List AV:=l.flatMap preC
theorem presC_pure (l:List Pre):(presC l).all AV.pure1=true:=by
 induction l with
 | nil=>rfl
 | cons x l ih =>
  rw [show presC (x::l)=preC x++presC l from rfl,List.all_append,ih]
  rfl
theorem presC_app (a b:List Pre):presC (a++b)=presC a++presC b:=by simp [presC]
theorem pres_snoc (l:List Pre) (p:Pre):presC l++[.base (.bool p.ad.v6),.base (.int .u64 p.ad.hi),.base (.int .u64 p.ad.lo),.base (.int .i64 p.len)]=presC (l++[p]):=by
 rw [presC_app];rfl
theorem pres_all {l:List Pre} {n:Nat} (h:l.length=n):Tk (presC l) 0 (n * 4) (presC l):=flatAll (c:=preC) (fun _=>rfl) h
theorem pres_tk {l:List Pre} {k:Nat} (h:k < l.length):Tk (presC l) (0 + k * 4) 4 (preC l[k]):=by rw [Nat.zero_add];exact flat_tk (c:=preC) (fun _=>rfl) h
theorem ObjsOk.mx {os:List ObjR} (h:ObjsOk os) (k:Nat):∀ x∈os.take k,0≤x.mx:=fun x hx=>(h.ok x (List.mem_of_mem_take hx)).ge
theorem take_succR {α:Type} {l:List α} {k:Nat} (h:k < l.length):l.take (k + 1)=l.take k++[l[k]]:=by
 rw [List.take_add_one,List.getElem?_eq_getElem h];rfl
theorem if_max (a b:Int):(if a < b then b else a)=max a b:=by
 rw [Int.max_def];split<;>split<;>omega
set_option maxHeartbeats 4000000 in
theorem objs_law (haw:AFn Tryz.prog 15 0 [] mt (.base (.bool true)) mt) (l:List Int) (asn0:Int) (hl:l.length≤9223372036854775807):AFn Tryz.prog 3 0 [.isl (l.map fun z=>.base (.int .i64 z)) l.length,.base (.int .i64 asn0)] mt (.base (.bool true)) mt:=by
 refine AFn.eq Tryz.func3 rfl rfl (Nat.le_of_ble_eq_true rfl) ?_
 have hnew:=new_any l
 obtain ⟨v,H',hreg,ss,os,a0,⟨hss,hos⟩,rfl,rfl⟩:=registry_any l 0 hl
 have hmd:=mod_any asn0 7 (by decide) (by decide)
 obtain ⟨asn,ha⟩:∃ asn,asn0 % 7=asn:=⟨_,rfl⟩
 rw [ha] at hmd
 obtain ⟨_,_,hpre,p0,a1,hp0,rfl,rfl⟩:=dprefix_any l a0 hl
 have hol:=hos.len
 unfold regC at hreg
 refine Wq<|qW 0 1 rfl<|qA rfl<|Nl<|Wq<|qW 5 8 rfl<|qM rfl<|Od rfl rfl (CN (fr:=[]) rfl rfl (hnew) fok5 (.cons rfl (.pure rfl) .nil) rfl (by decide))<|qA rfl<|Nl<|Wq<|qW 12 16 rfl<|qM rfl<|Od rfl rfl (C1 (fr:=[]) rfl rfl (hreg) fok6 (.own rfl rfl .nil) rfl rfl rfl (Cn _ _) (by decide) rfl)<|qB rfl ty28<|qS rfl ty28 (Sl rfl) rfl<|Nl<|Wq<|qW 20 23 rfl<|qM rfl<|qY rfl (hmd) fok7 rfl<|qA rfl<|Nl<|Wq<|qW 27 28 rfl<|qA rfl<|Nl<|Wq<|Wq<|qW 32 36 rfl<|qF rfl ty28 rfl<|qL rfl ty26 rfl<|qH rfl ty26<|qM rfl<|Nl<|Wb<|W.rename [(0,6),(1,14)] 2 (T':=up (up (up (up (up (up (up mt 1 (some (.base (.int .i64 asn)))) 5 (some (.own 0 0))) 6 (some (.own 1 0))) 7 (some (tAV (([]:List Ent))))) 32 (some (.isl (objsC os) os.length))) 33 (some (.base (.int .i64 (os.length:Int))))) 34 (some (.base (.int .i64 (0:Int))))) (H':=up (up mt 0 (some (deckC l a0))) 1 (some ([.isl (setsC ss) ss.length,.isl (objsC os) os.length]))) (by decide) ?_ ?_ ?_
 ·exact aU (lR rfl) (aU (lR rfl) (aU (lR rfl) (aU (lR rfl) (aU (lI rfl) (aU (lI rfl) (aU (lR rfl) aM))))))
 ·exact aU (kR rfl) (aU (kR rfl) aM)
 refine W.loop_ind (α:=Nat × List Ent) (fun x=>os.length - x.1) 2 (fun x=>up (up (up (up (up (up (up mt 1 (some (.base (.int .i64 asn)))) 5 (some (.own 0 0))) 6 (some (.own 1 0))) 7 (some (tAV x.2))) 32 (some (.isl (objsC os) os.length))) 33 (some (.base (.int .i64 (os.length:Int))))) 34 (some (.base (.int .i64 (x.1:Int))))) (fun x=>up (up mt 0 (some (deckC l a0))) 1 (some ([.isl (setsC ss) ss.length,.isl (objsC os) os.length]))) (fun x=>x.1≤os.length∧x.2.length≤x.1∧TabOk asn (os.take x.1) x.2∧TabP x.2) (0,(([]:List Ent))) (show 0≤os.length∧(([]:List Ent)).length≤0∧TabOk asn (os.take 0) (([]:List Ent))∧TabP (([]:List Ent)) from ⟨Nat.zero_le _,Nat.le_refl _,TabOk.nil asn,TabP.nil⟩) ?_
 rintro ⟨k,t⟩ hIA ihA
 try (dsimp only at hIA)
 try dsimp only
 obtain ⟨hk,htk,hTab,hTP⟩:=hIA
 by_cases hc:k < os.length
 ·have g1:decide ((k:Int) < (os.length:Int))=true:=decide_eq_true (by omega)
  have hkk:(k:Int) + 1=((k + 1:Nat):Int):=by omega
  have hot:=objs_tk hc
  have hok:=hos.ok os[k] (List.getElem_mem hc)
  have hsn:=hTab.snoc (o:=os[k]) (hos.mx k) hok.ge
  rw [← take_succR hc,← if_max] at hsn
  obtain ⟨o,hoe⟩:∃ o,os[k]=o:=⟨_,rfl⟩
  rw [hoe] at hot hok hsn
  have hget:=get_tab t o.p hTP
  have hput:=put_tab t o.p ((if getE t o.p < o.mx then o.mx else getE t o.p)) hTP (by omega) hok.p
  have hTP2:=hTP.put (v:=(if getE t o.p < o.mx then o.mx else getE t o.p)) (by omega) hok.p
  have hpl:=put_len (t:=t) (p:=o.p) (v:=(if getE t o.p < o.mx then o.mx else getE t o.p))
  refine Wq<|qW 40 41 rfl<|qK rfl<|Nl<|Wq<|Wt rfl ‹_›<|Wu<|Wq<|Wb<|Wq<|qW 45 49 rfl<|qJ rfl rfl ty26 ty38 (by omega)<|Od rfl rfl (Lg rfl rfl ty38 rfl hot)<|qB rfl ty38<|qS rfl ty38 (Sl rfl) rfl<|Nl ?_
  by_cases hao:o.asn=asn
  ·have g2:(o.asn != asn)=false:=by simp [hao]
   rw [if_pos hao] at hsn
   refine Wq<|Wq<|qW 53 57 rfl<|qF rfl ty38 rfl<|qL rfl ty3 rfl<|qM rfl<|qN rfl<|Nl<|Wo rfl ‹_›<|Wu<|Wq<|qW 61 70 rfl<|qM rfl<|qF rfl ty38 rfl<|qG rfl ty36 rfl (Tl rfl)<|Od rfl rfl (C0 (fr:=[]) rfl rfl (hget) fok8 (.cons rfl (.pure (tAV_pur _)) (.cons rfl (.pure rfl) .nil)) rfl)<|qM rfl<|qX rfl<|qX rfl<|qA rfl<|qA rfl<|Nl<|Wq<|qW 74 87 rfl<|qM rfl<|qF rfl ty38 rfl<|qG rfl ty36 rfl (Tl rfl)<|qM rfl<|qF rfl ty38 rfl<|qL rfl ty3 rfl<|Od rfl rfl (LO.max rfl rfl rfl)<|Od rfl rfl (C0 (fr:=[]) rfl rfl (hput) fok9 (.cons rfl (.pure (tAV_pur _)) (.cons rfl (.pure rfl) (.cons rfl (.pure rfl) .nil))) (tAVt_pur _ _))<|qM rfl<|qX rfl<|qX rfl<|qA rfl<|qA rfl<|Nl<|Wq<|Wq<|qW 91 93 rfl<|qM rfl<|qN rfl<|Nl<|Wo rfl rfl<|Wu<|qW 102 104 rfl<|qM rfl<|qA rfl<|Nl<|qW 108 110 rfl<|qZ rfl (iW _ (by omega))<|qM rfl<|Nl ?_
   rw [hkk]
   refine WL.rename [(0,0),(1,1)] 2 (by decide) ?_ ?_ (ihA ((k + 1),(putE t o.p ((if getE t o.p < o.mx then o.mx else getE t o.p)))) (show os.length - (k + 1) < os.length - k from by omega) (show (k + 1)≤os.length∧(putE t o.p ((if getE t o.p < o.mx then o.mx else getE t o.p))).length≤(k + 1)∧TabOk asn (os.take (k + 1)) (putE t o.p ((if getE t o.p < o.mx then o.mx else getE t o.p)))∧TabP (putE t o.p ((if getE t o.p < o.mx then o.mx else getE t o.p))) from ⟨by omega,by omega,hsn,hTP2⟩))
   ·exact aU (lR rfl) (aU (lR rfl) (aU (lR rfl) (aU (.inl ⟨rfl,by first|rfl|assumption|exact (tAV_pur _)|exact (setsC_pure _)|exact (objsC_pure _)⟩) (aU (lI rfl) (aU (lI rfl) (aU (lR rfl) aM))))))
   ·exact aU (kR rfl) (aU (kR rfl) aM)
  ·have g2:(o.asn != asn)=true:=by simp [hao]
   rw [if_neg hao] at hsn
   refine Wq<|Wq<|qW 53 57 rfl<|qF rfl ty38 rfl<|qL rfl ty3 rfl<|qM rfl<|qN rfl<|Nl<|Wt rfl ‹_›<|Wx<|qW 108 110 rfl<|qZ rfl (iW _ (by omega))<|qM rfl<|Nl ?_
   rw [hkk]
   refine WL.rename [(0,0),(1,1)] 2 (by decide) ?_ ?_ (ihA ((k + 1),t) (show os.length - (k + 1) < os.length - k from by omega) (show (k + 1)≤os.length∧t.length≤(k + 1)∧TabOk asn (os.take (k + 1)) t∧TabP t from ⟨by omega,by omega,hsn,hTP⟩))
   ·exact aU (lR rfl) (aU (lR rfl) (aU (lR rfl) (aU (.inl ⟨rfl,by first|rfl|assumption|exact (tAV_pur _)|exact (setsC_pure _)|exact (objsC_pure _)⟩) (aU (lI rfl) (aU (lI rfl) (aU (lR rfl) aM))))))
   ·exact aU (kR rfl) (aU (kR rfl) aM)
 ·have g1:decide ((k:Int) < (os.length:Int))=false:=decide_eq_false (by omega)
  obtain rfl:k=os.length:=by omega
  rw [List.take_length] at hTab
  clear ihA
  refine Wq<|qW 40 41 rfl<|qK rfl<|Nl<|Wq<|Wo rfl ‹_›<|Wx<|Wq<|qW 114 118 rfl<|qM rfl<|Od rfl rfl (C1 (fr:=[]) rfl rfl (hpre) fok10 (.own rfl rfl .nil) rfl rfl rfl (Cn _ _) (by decide) rfl)<|Od rfl rfl (LO.buildSlice rfl ty45 ty36 (by decide) (by decide) (.cons rfl rfl rfl rfl (Sl rfl) .nil))<|qA rfl<|Nl<|Wq<|Wq<|qW 122 126 rfl<|qF rfl ty28 rfl<|qL rfl ty26 rfl<|qH rfl ty26<|qM rfl<|Nl<|Wb<|W.rename [(0,0),(1,1),(2,116)] 3 (T':=up (up (up (up (up (up (up (up mt 1 (some (.base (.int .i64 asn)))) 5 (some (.own 0 0))) 6 (some (.own 1 0))) 7 (some (tAV t))) 14 (some (.osl 2 0 [p0].length 4))) 68 (some (.isl (objsC os) os.length))) 69 (some (.base (.int .i64 (os.length:Int))))) 70 (some (.base (.int .i64 (0:Int))))) (H':=up (up (up mt 0 (some (deckC l a1))) 1 (some ([.isl (setsC ss) ss.length,.isl (objsC os) os.length]))) 2 (some (presC [p0]))) (by decide) ?_ ?_ ?_
  ·exact aU (lR rfl) (aU (lR rfl) (aU (lR rfl) (aU (lI rfl) (aU (.inl ⟨rfl,by first|rfl|assumption|exact (tAV_pur _)|exact (presC_pure _)|exact (setsC_pure _)|exact (objsC_pure _)⟩) (aU (lI rfl) (aU (lI rfl) (aU (lR rfl) aM)))))))
  ·exact aU (kR rfl) (aU (kR rfl) (aU (kR rfl) aM))
  refine W.loop_ind (α:=Nat × Nat × List Pre) (fun x=>os.length - x.1) 3 (fun x=>up (up (up (up (up (up (up (up mt 1 (some (.base (.int .i64 asn)))) 5 (some (.own 0 0))) 6 (some (.own 1 0))) 7 (some (tAV t))) 14 (some (.osl 2 0 x.2.2.length 4))) 68 (some (.isl (objsC os) os.length))) 69 (some (.base (.int .i64 (os.length:Int))))) 70 (some (.base (.int .i64 (x.1:Int))))) (fun x=>up (up (up mt 0 (some (deckC l x.2.1))) 1 (some ([.isl (setsC ss) ss.length,.isl (objsC os) os.length]))) 2 (some (presC x.2.2))) (fun x=>x.1≤os.length∧x.2.2.length≤1 + 2 * x.1∧∀ z∈x.2.2,PreOk z) (0,a1,[p0]) (show 0≤os.length∧[p0].length≤1 + 2 * 0∧∀ z∈[p0],PreOk z from ⟨Nat.zero_le _,Nat.le_refl _,fun z hz=>by rw [List.mem_singleton] at hz;subst hz;exact hp0⟩) ?_
  rintro ⟨k,a,ps⟩ hIB ihB
  try (dsimp only at hIB)
  try dsimp only
  obtain ⟨hk,hpl,hps⟩:=hIB
  by_cases hc:k < os.length
  ·have g1:decide ((k:Int) < (os.length:Int))=true:=decide_eq_true (by omega)
   have hkk:(k:Int) + 1=((k + 1:Nat):Int):=by omega
   have hot:=objs_tk hc
   have hok:=hos.ok os[k] (List.getElem_mem hc)
   obtain ⟨o,hoe⟩:∃ o,os[k]=o:=⟨_,rfl⟩
   rw [hoe] at hot hok
   obtain ⟨x,a2,bx,hx⟩:=nextC l a 3 (by decide) (by decide) hl
   obtain ⟨q,e,hmk,hqe⟩:=make_all o.p.ad (o.mx + (x:Int) - 1) hok.p.val hok.p.hi hok.p.lo
   have hge:=hok.ge
   have hle:=hok.le
   refine Wq<|qW 130 131 rfl<|qK rfl<|Nl<|Wq<|Wt rfl ‹_›<|Wu<|Wq<|Wb<|Wq<|qW 135 139 rfl<|qJ rfl rfl ty26 ty38 (by omega)<|Od rfl rfl (Lg rfl rfl ty38 rfl hot)<|qB rfl ty38<|qS rfl ty38 (Sl rfl) rfl<|Nl<|Wq<|Wd 143 159 (by decide) rfl mixed rfl<|qF rfl ty38 rfl<|qF rfl ty36 rfl<|qG rfl ty34 rfl (Tl rfl)<|qF rfl ty38 rfl<|qL rfl ty3 rfl<|qM rfl<|Od rfl rfl (C1 (fr:=[]) rfl rfl (hx) fok12 (.own rfl rfl (.cons rfl (.pure rfl) .nil)) rfl rfl rfl (Cn _ _) (by decide) rfl)<|qZ rfl (iW _ (by omega))<|Od rfl rfl (LO.sub_in rfl rfl rfl (iW _ (by omega)))<|qY rfl (hmk) fok11 rfl<|qM rfl<|qX rfl<|qX rfl<|qB rfl ty36<|qS rfl ty36 (Sl rfl) rfl<|qA rfl<|Nl ⟨by kernel_rfl,(Wq<|qW 163 169 rfl<|qM rfl<|qF rfl ty38 rfl<|qG rfl ty36 rfl (Tl rfl)<|Od rfl rfl (LO.buildSlice rfl ty45 ty36 (by decide) (by decide) (.cons rfl rfl rfl rfl (Sl rfl) .nil))<|Od rfl rfl (Lap rfl rfl (Sso rfl rfl (Tl rfl)) rfl (pres_all rfl) ty45 ty45 ty36 (by decide) (by omega) (by omega) (by decide))<|qA rfl<|Nl ?_)⟩
   rw [pres_snoc,show ps.length + 1=(ps++[o.p]).length from by simp]
   rcases hqe with ⟨rfl,hq,_⟩|rfl
   ·
    refine Wq<|qW 173 175 rfl<|qM rfl<|qE rfl<|Nl<|Wt rfl rfl<|qW 179 184 rfl<|qM rfl<|qG rfl ty36 rfl (Tl rfl)<|Od rfl rfl (LO.buildSlice rfl ty45 ty36 (by decide) (by decide) (.cons rfl rfl rfl rfl (Sl rfl) .nil))<|Od rfl rfl (Lap rfl rfl (Sso rfl rfl (Tl rfl)) rfl (pres_all rfl) ty45 ty45 ty36 (by decide) (by simp;omega) (by simp;omega) (by decide))<|qA rfl<|Nl ?_
    rw [pres_snoc,show (ps++[o.p]).length + 1=(ps++[o.p]++[q]).length from by simp]
    refine qW 188 190 rfl<|qZ rfl (iW _ (by omega))<|qM rfl<|Nl ?_
    rw [hkk]
    refine WL.rename [(0,0),(1,1),(2,182)] 3 (by decide) ?_ ?_ (ihB ((k + 1),a2,(ps++[o.p]++[q])) (show os.length - (k + 1) < os.length - k from by omega) (show (k + 1)≤os.length∧(ps++[o.p]++[q]).length≤1 + 2 * (k + 1)∧∀ z∈(ps++[o.p]++[q]),PreOk z from ⟨by omega,by simp;omega,memR (memR hps hok.p) hq⟩))
    ·exact aU (lR rfl) (aU (lR rfl) (aU (lR rfl) (aU (lI rfl) (aU (.inl ⟨rfl,by first|rfl|assumption|exact (tAV_pur _)|exact (presC_pure _)|exact (setsC_pure _)|exact (objsC_pure _)⟩) (aU (lI rfl) (aU (lI rfl) (aU (lR rfl) aM)))))))
    ·exact aU (kP rfl (presC_pure _)) (aU (kR rfl) (aU (kR rfl) aM))
   ·
    refine Wq<|qW 173 175 rfl<|qM rfl<|qE rfl<|Nl<|Wo rfl rfl<|Wu<|qW 188 190 rfl<|qZ rfl (iW _ (by omega))<|qM rfl<|Nl ?_
    rw [hkk]
    refine WL.rename [(0,0),(1,1),(2,167)] 3 (by decide) ?_ ?_ (ihB ((k + 1),a2,(ps++[o.p])) (show os.length - (k + 1) < os.length - k from by omega) (show (k + 1)≤os.length∧(ps++[o.p]).length≤1 + 2 * (k + 1)∧∀ z∈(ps++[o.p]),PreOk z from ⟨by omega,by simp;omega,memR hps hok.p⟩))
    ·exact aU (lR rfl) (aU (lR rfl) (aU (lR rfl) (aU (lI rfl) (aU (.inl ⟨rfl,by first|rfl|assumption|exact (tAV_pur _)|exact (presC_pure _)|exact (setsC_pure _)|exact (objsC_pure _)⟩) (aU (lI rfl) (aU (lI rfl) (aU (lR rfl) aM)))))))
    ·exact aU (kP rfl (presC_pure _)) (aU (kR rfl) (aU (kR rfl) aM))
  ·have g1:decide ((k:Int) < (os.length:Int))=false:=decide_eq_false (by omega)
   clear ihB
   refine Wq<|qW 130 131 rfl<|qK rfl<|Nl<|Wq<|Wo rfl ‹_›<|Wx<|Wq<|Wq<|qW 194 197 rfl<|qM rfl<|Od rfl rfl (LO.len rfl rfl ty45)<|qM rfl<|Nl<|Wb<|W.rename [(0,1),(1,2)] 2 (T':=up (up (up (up (up (up mt 1 (some (.base (.int .i64 asn)))) 6 (some (.own 0 0))) 7 (some (tAV t))) 99 (some (.osl 1 0 ps.length 4))) 100 (some (.base (.int .i64 (ps.length:Int))))) 101 (some (.base (.int .i64 (0:Int))))) (H':=up (up mt 0 (some ([.isl (setsC ss) ss.length,.isl (objsC os) os.length]))) 1 (some (presC ps))) (by decide) ?_ ?_ ?_
   ·exact aU (lR rfl) (aU (lR rfl) (aU (lI rfl) (aU (.inl ⟨rfl,by first|rfl|assumption|exact (tAV_pur _)|exact (presC_pure _)|exact (setsC_pure _)|exact (objsC_pure _)⟩) (aU (lI rfl) (aU (lR rfl) aM)))))
   ·exact aU (kP rfl (presC_pure _)) (aU (kR rfl) aM)
   refine W.loop_ind (α:=Nat) (fun x=>ps.length - x) 2 (fun x=>up (up (up (up (up (up mt 1 (some (.base (.int .i64 asn)))) 6 (some (.own 0 0))) 7 (some (tAV t))) 99 (some (.osl 1 0 ps.length 4))) 100 (some (.base (.int .i64 (ps.length:Int))))) 101 (some (.base (.int .i64 (x:Int))))) (fun x=>up (up mt 0 (some ([.isl (setsC ss) ss.length,.isl (objsC os) os.length]))) 1 (some (presC ps))) (fun x=>x≤ps.length) 0 (show 0≤ps.length from Nat.zero_le _) ?_
   rintro k hIC ihC
   try (dsimp only at hIC)
   try dsimp only
   obtain hk:=hIC
   by_cases hc:k < ps.length
   ·have g1:decide ((k:Int) < (ps.length:Int))=true:=decide_eq_true (by omega)
    have hkk:(k:Int) + 1=((k + 1:Nat):Int):=by omega
    have hpt:=pres_tk hc
    have hpok:=hps ps[k] (List.getElem_mem hc)
    obtain ⟨p,hpe⟩:∃ p,ps[k]=p:=⟨_,rfl⟩
    rw [hpe] at hpt hpok
    have hcov:=covering_tab t p hTP
    have hprm:=permits_table (cov:=cvP) (p:=p) (asn:=asn) (eN:=11) (eO:=7) (eR:=9) (by decide) (by decide) (by decide) hTab (fun x hx=>(hos.ok x hx).ge) hpok.ge
    have hpm:=permits_any os p asn hpok (fun o ho=>(hos.ok o ho).p) (by omega)
    obtain ⟨W0,hW0⟩:∃ W,prmK cvP p asn 11 7 9 os 11=W:=⟨_,rfl⟩
    rw [hW0] at hpm hprm
    obtain ⟨R,hR⟩:∃ R,mostE cvP p t (-1)=R:=⟨_,rfl⟩
    rw [hR] at hprm
    rw [← mostL_cov] at hR
    obtain ⟨c,hce⟩:∃ c,covE t p=c:=⟨_,rfl⟩
    rw [hce] at hcov hR
    have hcl:c.length≤512:=by rw [← hce];exact Nat.le_trans (List.length_filter_le _ _) hTP.len
    refine Wq<|qW 201 202 rfl<|qK rfl<|Nl<|Wq<|Wt rfl ‹_›<|Wu<|Wq<|Wb<|Wq<|qW 206 210 rfl<|Od rfl rfl (Ia rfl rfl rfl rfl ty45 ty36 (by omega))<|qG rfl ty36 rfl hpt<|qB rfl ty36<|qS rfl ty36 (Sl rfl) rfl<|Nl<|Wq<|qW 214 215 rfl<|qA rfl<|Nl<|Wq<|Wq<|qW 219 224 rfl<|qM rfl<|qG rfl ty36 rfl (Tl rfl)<|Od rfl rfl (C0 (fr:=[]) rfl rfl (hcov) fok13 (.cons rfl (.pure (tAV_pur _)) (.cons rfl (.pure rfl) .nil)) rfl)<|qH rfl ty31<|qM rfl<|Nl<|Wb<|W.rename [(0,0),(1,1),(2,208)] 3 (T':=up (up (up (up (up (up (up (up (up (up (up mt 1 (some (.base (.int .i64 asn)))) 6 (some (.own 0 0))) 7 (some (tAV t))) 20 (some (.own 2 0))) 21 (some (.base (.int .i64 ((-1:Int)))))) 99 (some (.osl 1 0 ps.length 4))) 100 (some (.base (.int .i64 (ps.length:Int))))) 101 (some (.base (.int .i64 (k:Int))))) 107 (some (.isl (entsC c) c.length))) 108 (some (.base (.int .i64 (c.length:Int))))) 109 (some (.base (.int .i64 (0:Int))))) (H':=up (up (up mt 0 (some ([.isl (setsC ss) ss.length,.isl (objsC os) os.length]))) 1 (some (presC ps))) 2 (some (preC p))) (by decide) ?_ ?_ ?_
    ·exact aU (lR rfl) (aU (lR rfl) (aU (lR rfl) (aU (lR rfl) (aU (lR rfl) (aU (lI rfl) (aU (lR rfl) (aU (lI rfl) (aU (.inl ⟨rfl,by first|rfl|assumption|exact (tAV_pur _)|exact (presC_pure _)|exact (setsC_pure _)|exact (objsC_pure _)⟩) (aU (lI rfl) (aU (lR rfl) aM))))))))))
    ·exact aU (kR rfl) (aU (kP rfl (presC_pure _)) (aU (kR rfl) aM))
    refine W.loop_ind (α:=Nat × Int) (fun x=>c.length - x.1) 3 (fun x=>up (up (up (up (up (up (up (up (up (up (up mt 1 (some (.base (.int .i64 asn)))) 6 (some (.own 0 0))) 7 (some (tAV t))) 20 (some (.own 2 0))) 21 (some (.base (.int .i64 x.2)))) 99 (some (.osl 1 0 ps.length 4))) 100 (some (.base (.int .i64 (ps.length:Int))))) 101 (some (.base (.int .i64 (k:Int))))) 107 (some (.isl (entsC c) c.length))) 108 (some (.base (.int .i64 (c.length:Int))))) 109 (some (.base (.int .i64 (x.1:Int))))) (fun x=>up (up (up mt 0 (some ([.isl (setsC ss) ss.length,.isl (objsC os) os.length]))) 1 (some (presC ps))) 2 (some (preC p))) (fun x=>x.1≤c.length∧mostL (c.drop x.1) x.2=R) (0,((-1:Int))) (show 0≤c.length∧mostL (c.drop 0) ((-1:Int))=R from ⟨Nat.zero_le _,hR⟩) ?_
    rintro ⟨j,m⟩ hID ihD
    try (dsimp only at hID)
    try dsimp only
    obtain ⟨hj,hm⟩:=hID
    by_cases hcj:j < c.length
    ·have g2:decide ((j:Int) < (c.length:Int))=true:=decide_eq_true (by omega)
     have hjj:(j:Int) + 1=((j + 1:Nat):Int):=by omega
     have het:=ent_tk hcj
     rw [List.drop_eq_getElem_cons hcj] at hm
     obtain ⟨en,hen⟩:∃ e,c[j]=e:=⟨_,rfl⟩
     rw [hen] at het hm
     unfold mostL at hm
     rw [← if_max] at hm
     refine Wq<|qW 228 229 rfl<|qK rfl<|Nl<|Wq<|Wt rfl ‹_›<|Wu<|Wq<|Wb<|Wq<|qW 233 237 rfl<|qJ rfl rfl ty31 ty51 (by omega)<|Od rfl rfl (Lg rfl rfl ty51 rfl het)<|qB rfl ty51<|qS rfl ty51 (Sl rfl) rfl<|Nl<|qW 241 246 rfl<|qM rfl<|qF rfl ty51 rfl<|qL rfl ty3 rfl<|Od rfl rfl (LO.max rfl rfl rfl)<|qA rfl<|Nl<|qW 250 252 rfl<|qZ rfl (iW _ (by omega))<|qM rfl<|Nl ?_
     rw [hjj]
     refine WL.rename [(0,0),(1,1),(2,2)] 3 (by decide) ?_ ?_ (ihD ((j + 1),(if m < en.v then en.v else m)) (show c.length - (j + 1) < c.length - j from by omega) (show (j + 1)≤c.length∧mostL (c.drop (j + 1)) (if m < en.v then en.v else m)=R from ⟨by omega,hm⟩))
     ·exact aU (lR rfl) (aU (lR rfl) (aU (lR rfl) (aU (lR rfl) (aU (lR rfl) (aU (lI rfl) (aU (lR rfl) (aU (lI rfl) (aU (.inl ⟨rfl,by first|rfl|assumption|exact (tAV_pur _)|exact (presC_pure _)|exact (setsC_pure _)|exact (objsC_pure _)⟩) (aU (lI rfl) (aU (lR rfl) aM))))))))))
     ·exact aU (kR rfl) (aU (kP rfl (presC_pure _)) (aU (kR rfl) aM))
    ·have g2:decide ((j:Int) < (c.length:Int))=false:=decide_eq_false (by omega)
     obtain rfl:j=c.length:=by omega
     rw [List.drop_length] at hm
     obtain rfl:m=R:=hm
     clear ihD
     have h4:(t=[]∧W0=11)∨(t≠[]∧m < 0∧W0=7)∨(t≠[]∧¬ m < 0∧m < p.len∧W0=9)∨(t≠[]∧¬ m < 0∧¬ m < p.len∧W0=0):=by
      by_cases h1:t=[]
      ·subst h1;exact .inl ⟨rfl,by rw [hprm];rfl⟩
      ·have h2:¬ t.length=0:=fun h=>h1 (List.length_eq_zero_iff.1 h)
       rw [if_neg h2] at hprm
       by_cases h3:m < 0
       ·rw [if_pos h3] at hprm;exact .inr (.inl ⟨h1,h3,hprm⟩)
       ·rw [if_neg h3] at hprm
        by_cases h5:m < p.len
        ·rw [if_pos h5] at hprm;exact .inr (.inr (.inl ⟨h1,h3,h5,hprm⟩))
        ·rw [if_neg h5] at hprm;exact .inr (.inr (.inr ⟨h1,h3,h5,hprm⟩))
     clear hprm hW0
     refine Wq<|qW 228 229 rfl<|qK rfl<|Nl<|Wq<|Wo rfl ‹_›<|Wx<|Wq<|qW 256 257 rfl<|qA rfl<|Nl<|Wq<|Wb ?_
     rcases h4 with ⟨ht,rfl⟩|⟨ht,h3,rfl⟩|⟨ht,h3,h5,rfl⟩|⟨ht,h3,h5,rfl⟩
     case' inl =>
      rw [show tAV t=.nils from if_pos ht]
      refine Wq<|qW 261 265 rfl<|qM rfl<|qH rfl ty31<|qE rfl<|qA rfl<|Nl<|Wt rfl rfl<|qW 269 270 rfl<|qA rfl<|Nl ?_
      rw [show AV.nils=tAV t from (if_pos ht).symm]
     case' inr.inl =>
      have l0:((t.length:Int) == 0)=false:=by simp [ht]
      have l1:decide (m < 0)=true:=decide_eq_true h3
      rw [show tAV t=.isl (entsC t) t.length from if_neg ht]
      refine Wq<|qW 261 265 rfl<|qM rfl<|qH rfl ty31<|qE rfl<|qA rfl<|Nl<|Wo rfl ‹_›<|Wq<|qW 274 277 rfl<|qM rfl<|qK rfl<|qA rfl<|Nl<|Wt rfl ‹_›<|qW 281 282 rfl<|qA rfl<|Nl ?_
      rw [show AV.isl (entsC t) t.length=tAV t from (if_neg ht).symm]
     case' inr.inr.inl =>
      have l0:((t.length:Int) == 0)=false:=by simp [ht]
      have l1:decide (m < 0)=false:=decide_eq_false h3
      have l2:decide (m < p.len)=true:=decide_eq_true h5
      rw [show tAV t=.isl (entsC t) t.length from if_neg ht]
      refine Wq<|qW 261 265 rfl<|qM rfl<|qH rfl ty31<|qE rfl<|qA rfl<|Nl<|Wo rfl ‹_›<|Wq<|qW 274 277 rfl<|qM rfl<|qK rfl<|qA rfl<|Nl<|Wo rfl ‹_›<|Wq<|qW 286 291 rfl<|qM rfl<|qF rfl ty36 rfl<|qL rfl ty3 rfl<|qK rfl<|qA rfl<|Nl<|Wt rfl ‹_›<|qW 295 296 rfl<|qA rfl<|Nl ?_
      rw [show AV.isl (entsC t) t.length=tAV t from (if_neg ht).symm]
     case' inr.inr.inr =>
      have l0:((t.length:Int) == 0)=false:=by simp [ht]
      have l1:decide (m < 0)=false:=decide_eq_false h3
      have l2:decide (m < p.len)=false:=decide_eq_false h5
      rw [show tAV t=.isl (entsC t) t.length from if_neg ht]
      refine Wq<|qW 261 265 rfl<|qM rfl<|qH rfl ty31<|qE rfl<|qA rfl<|Nl<|Wo rfl ‹_›<|Wq<|qW 274 277 rfl<|qM rfl<|qK rfl<|qA rfl<|Nl<|Wo rfl ‹_›<|Wq<|qW 286 291 rfl<|qM rfl<|qF rfl ty36 rfl<|qL rfl ty3 rfl<|qK rfl<|qA rfl<|Nl<|Wo rfl ‹_›<|Wu ?_
      rw [show AV.isl (entsC t) t.length=tAV t from (if_neg ht).symm]
     all_goals
      repeat (refine Wq ?_)
      refine qW 300 307 rfl<|qF rfl ty28 rfl<|qL rfl ty26 rfl<|qG rfl ty36 rfl (Tl rfl)<|qM rfl<|qY rfl (hpm) fok14 rfl<|qM rfl<|qN rfl<|Nl<|Wo rfl rfl<|Wu<|qW 316 318 rfl<|qZ rfl (iW _ (by omega))<|qM rfl<|Nl ?_
      rw [hkk]
      refine WL.rename [(0,0),(1,1)] 2 (by decide) ?_ ?_ (ihC (k + 1) (show ps.length - (k + 1) < ps.length - k from by omega) (show (k + 1)≤ps.length from hc))
      ·exact aU (lR rfl) (aU (lR rfl) (aU (lI rfl) (aU (.inl ⟨rfl,by first|rfl|assumption|exact (tAV_pur _)|exact (presC_pure _)|exact (setsC_pure _)|exact (objsC_pure _)⟩) (aU (lI rfl) (aU (lR rfl) aM)))))
      ·exact aU (kP rfl (presC_pure _)) (aU (kR rfl) aM)
   ·have g1:decide ((k:Int) < (ps.length:Int))=false:=decide_eq_false (by omega)
    clear ihC
    refine Wq<|qW 201 202 rfl<|qK rfl<|Nl<|Wq<|Wo rfl ‹_›<|Wx<|Wq<|qW 322 324 rfl<|qY rfl (haw) fok15 rfl<|qA rfl<|Nl<|Wz ⟨.inl rfl,_,mt,(Rc (Rt0 rfl) Rv),aM,?_⟩
    exact ⟨rfl,rfl⟩
theorem memsC_len (l:List Mem):(memsC l).length=l.length * 6:=by
 induction l with
 | nil=>rfl
 | cons x l ih=>rw [show memsC (x::l)=memC x++memsC l from rfl,List.length_append,ih,show (memC x).length=6 from rfl,List.length_cons];omega
theorem memsC_pure (l:List Mem):(memsC l).all AV.pure1=true:=by
 induction l with
 | nil=>rfl
 | cons x l ih=>rw [show memsC (x::l)=memC x++memsC l from rfl,List.all_append,ih];rfl
theorem mems_all {l:List Mem} {n:Nat} (h:l.length=n):Tk (memsC l) 0 (n * 6) (memsC l):=by
 have:=Tk.all (memsC l)
 rwa [memsC_len,h] at this
theorem all_any (d:Db) (h1:d.servers.length≤1000) (h2:d.members.length≤1000):AFn Tryz.prog 106 0 [.agg (dbC d)] mt (.isl (memsC (d.servers++d.members)) (d.servers++d.members).length) mt:=by
 refine AFn.eq Tryz.func106 rfl rfl (Nat.le_of_ble_eq_true rfl)<|Wq<|qW 0 2 rfl<|qC rfl<|qA rfl<|Nl<|Wq<|Wd 6 13 (by decide) rfl mixed rfl<|qF rfl ty82 rfl<|qL rfl ty80 rfl<|Od rfl rfl (Lan rfl rfl (Ssi rfl rfl (memsC_len _)) ty80 ty80 ty142 (by decide) (by omega) (by omega) (by decide))<|qF rfl ty82 rfl<|qL rfl ty80 rfl<|Od rfl rfl (Lap rfl rfl (Ssi rfl rfl (memsC_len _)) rfl (mems_all rfl) ty80 ty80 ty142 (by decide) (by omega) (by omega) (by decide))<|qA rfl<|Nl ⟨by kernel_rfl,?_⟩
 rw [show memsC d.servers++memsC d.members=memsC (d.servers++d.members) from by simp [memsC],show d.servers.length + d.members.length=(d.servers++d.members).length from by simp]
 refine Wy (t:=2) rfl rfl (mems_all rfl) (memsC_pure _)<|Wz ⟨.inl rfl,_,mt,Rc (Rt0 rfl) (Rv),aM,?_⟩
 exact ⟨rfl,rfl⟩
theorem macsC_len {l:List (List Int)} (h:∀ m,m∈l→m.length=6):(macsC l).length=l.length * 6:=by
 induction l with
 | nil=>rfl
 | cons x l ih=>rw [show macsC (x::l)=bytesC x++macsC l from rfl,List.length_append,ih (fun m hm=>h m (by simp [hm])),bytesC_len,h x (by simp),List.length_cons];omega
theorem macsC_pure (l:List (List Int)):(macsC l).all AV.pure1=true:=flatPure (fun m=>bytesC_pure m) l
theorem macs_all {l:List (List Int)} (h:∀ m,m∈l→m.length=6):Tk (macsC l) 0 (l.length * 6) (macsC l):=by
 have:=Tk.all (macsC l)
 rwa [macsC_len h] at this
theorem prtsC_pure (l:List Prt):(prtsC l).all AV.pure1=true:=flatPure (fun _=>rfl) l
theorem prts_all {l:List Prt} {n:Nat} (h:l.length=n):Tk (prtsC l) 0 (n * 10) (prtsC l):=flatAll (c:=prtC) (fun _=>rfl) h
theorem copyPort_any (p:Prt) (hm:∀ m,m∈p.macs→m.length=6) (hn:p.macs.length≤1000):AFn Tryz.prog 107 0 [.agg (prtC p)] mt (.agg (prtC p)) mt:=by
 refine AFn.eq Tryz.func107 rfl rfl (Nat.le_of_ble_eq_true rfl) ?_
 obtain ⟨id,sw,sp,ms,v4,v6⟩:=p
 dsimp only at hm hn
 have hl:=macsC_len hm
 refine Wq<|qW 0 2 rfl<|qC rfl<|qB rfl ty186<|Nl<|Wq<|qW 6 11 rfl<|qF rfl ty186 rfl<|qL rfl ty103 rfl<|Od rfl rfl (Lan rfl rfl (Ssi rfl rfl hl) ty103 ty103 ty93 (by decide) (by dsimp only;omega) (by dsimp only;omega) (by decide))<|qF rfl ty186 rfl<|qS rfl ty103 (Sl rfl) rfl<|Nl<|Wv (q:=0) (j:=3) (r:=8) rfl rfl (by decide) rfl (macs_all hm) (macsC_pure _) (Sl rfl)<|Wq<|qW 15 17 rfl<|qG rfl ty186 rfl (Tl rfl)<|qS rfl ty186 (Sl rfl) rfl<|Nl<|Wz ⟨.inl rfl,_,mt,(Rc (Ra0 rfl rfl ty186 rfl (Tl rfl)) Rv),aM,?_⟩
 exact ⟨rfl,rfl⟩
def allP (d:Db):List Prt:=(d.servers++d.members).flatMap (·.ports)
structure PrtS (p:Prt):Prop where
 nm:p.macs.length≤2
 macs:∀ m,m∈p.macs→m.length=6
structure MemS (m:Mem):Prop where
 np:m.ports.length≤4
 ports:∀ p,p∈m.ports→PrtS p
structure DbS (d:Db):Prop where
 ns:d.servers.length≤4
 nm:d.members.length≤32
 mem:∀ m,m∈d.servers++d.members→MemS m
def selP (L:List Prt) (n:Nat):List Prt:=L.filter fun p=>p.id == (n:Int)
def portsOf (d:Db):List Prt:=(List.range 1000).flatMap (selP (allP d))
theorem selP_app (a b:List Prt) (n:Nat):selP (a++b) n=selP a n++selP b n:=List.filter_append ..
set_option maxHeartbeats 1000000 in
theorem portsS_any (d:Db) (hd:DbS d) (hs:(portsOf d).length≤1000):AFn Tryz.prog 58 0 [.agg (dbC d)] mt (.isl (prtsC (portsOf d)) (portsOf d).length) mt:=by
 refine AFn.eq Tryz.func58 rfl rfl (Nat.le_of_ble_eq_true rfl) ?_
 have h4:=hd.ns
 have h32:=hd.nm
 have hmem:=hd.mem
 have hall:=all_any d (by omega) (by omega)
 unfold portsOf allP at hs ⊢
 obtain ⟨A,hA⟩:∃ A,A=d.servers++d.members:=⟨_,rfl⟩
 rw [← hA] at hall hmem hs ⊢
 obtain ⟨Z,hZ⟩:∃ Z,Z=A.flatMap (·.ports):=⟨_,rfl⟩
 rw [← hZ] at hs ⊢
 have hAl:A.length≤2000:=by rw [hA,List.length_append];omega
 refine Wq<|qW 0 2 rfl<|qC rfl<|qA rfl<|Nl<|Wq<|qW 6 7 rfl<|qA rfl<|Nl<|Wq<|Wq<|qW 11 12 rfl<|qA rfl<|Nl<|W.name 12 (12 + 1) (t:=3) (sz:=10) rfl (by decide) (by decide)<|Wb<|W.rename [(0,0),(1,12)] 2 (T':=up (up (up mt 1 (some (.own 0 0))) 3 (some (.osl 1 0 ((List.range 0).flatMap (selP Z)).length 10))) 4 (some (.base (.int .i64 (0:Int))))) (H':=up (up mt 0 (some (dbC d))) 1 (some (prtsC ((List.range 0).flatMap (selP Z))))) (by decide) ?_ ?_ ?_
 ·exact aU (lR rfl) (aU (lI rfl) (aU (lI rfl) aM))
 ·exact aU (kR rfl) (aU (kR rfl) aM)
 refine W.loop_ind (α:=Nat) (fun x=>1000 - x) 2 (fun x=>up (up (up mt 1 (some (.own 0 0))) 3 (some (.osl 1 0 ((List.range x).flatMap (selP Z)).length 10))) 4 (some (.base (.int .i64 (x:Int))))) (fun x=>up (up mt 0 (some (dbC d))) 1 (some (prtsC ((List.range x).flatMap (selP Z))))) (fun x=>x≤1000) 0 (show 0≤1000 from Nat.zero_le _) ?_
 rintro n hIA ihA
 try (dsimp only at hIA)
 try dsimp only
 by_cases hc:n < 1000
 ·have g1:decide ((n:Int)≤999)=true:=decide_eq_true (by omega)
  have hpre:∀ X Y:List Prt,selP Z n=X++Y→((List.range n).flatMap (selP Z)++X).length≤1000:=fun X Y e=>by
   obtain ⟨k,hk⟩:∃ k,1000=n + 1 + k:=⟨1000 - (n + 1),by omega⟩
   rw [hk,List.range_add,List.flatMap_append,List.range_succ,List.flatMap_append] at hs
   simp only [List.flatMap_cons,List.flatMap_nil,List.append_nil,e,List.length_append] at hs ⊢
   omega
  have hnext:(List.range n).flatMap (selP Z)++selP Z n=(List.range (n + 1)).flatMap (selP Z):=by
   rw [List.range_succ,List.flatMap_append];simp
  generalize (List.range n).flatMap (selP Z)=R at *
  refine Wq<|Wq<|qW 16 18 rfl<|qM rfl<|qLe rfl<|Nl<|Wt rfl ‹_›<|Wu<|Wq<|Wb<|Wq<|qW 22 26 rfl<|qG rfl ty82 rfl (Tl rfl)<|qY rfl (hall) fok106 rfl<|qH rfl ty80<|qM rfl<|Nl ?_
  rw [show R=R++selP ((A.take 0).flatMap (·.ports)) n from by simp [selP]]
  refine Wb<|W.rename [(0,0),(1,1)] 2 (T':=up (up (up (up (up (up mt 1 (some (.own 0 0))) 3 (some (.osl 1 0 (R++selP ((A.take 0).flatMap (·.ports)) n).length 10))) 4 (some (.base (.int .i64 (n:Int))))) 14 (some (.isl (memsC A) A.length))) 15 (some (.base (.int .i64 (A.length:Int))))) 16 (some (.base (.int .i64 (0:Int))))) (H':=up (up mt 0 (some (dbC d))) 1 (some (prtsC (R++selP ((A.take 0).flatMap (·.ports)) n)))) (by decide) ?_ ?_ ?_
  ·exact aU (lR rfl) (aU (lR rfl) (aU (lR rfl) (aU (lR rfl) (aU (lI rfl) (aU (lI rfl) aM)))))
  ·exact aU (kP rfl (prtsC_pure _)) (aU (kR rfl) aM)
  refine W.loop_ind (α:=Nat) (fun x=>A.length - x) 2 (fun x=>up (up (up (up (up (up mt 1 (some (.own 0 0))) 3 (some (.osl 1 0 (R++selP ((A.take x).flatMap (·.ports)) n).length 10))) 4 (some (.base (.int .i64 (n:Int))))) 14 (some (.isl (memsC A) A.length))) 15 (some (.base (.int .i64 (A.length:Int))))) 16 (some (.base (.int .i64 (x:Int))))) (fun x=>up (up mt 0 (some (dbC d))) 1 (some (prtsC (R++selP ((A.take x).flatMap (·.ports)) n)))) (fun x=>x≤A.length) 0 (show 0≤A.length from Nat.zero_le _) ?_
  rintro i hIB ihB
  try (dsimp only at hIB)
  try dsimp only
  by_cases hc2:i < A.length
  ·have g2:decide ((i:Int) < (A.length:Int))=true:=decide_eq_true (by omega)
   have hm:=hmem _ (List.getElem_mem hc2)
   have hps:=hm.ports
   have hnp:=hm.np
   have hfl:(A.take (i + 1)).flatMap (·.ports)=(A.take i).flatMap (·.ports)++A[i].ports:=by
    rw [List.take_add_one,List.flatMap_append]
    simp [hc2]
   have hsp:∃ Y,Z=((A.take i).flatMap (·.ports)++A[i].ports)++Y:=⟨(A.drop (i + 1)).flatMap (·.ports),by
    rw [hZ,← hfl,← List.flatMap_append,List.take_append_drop]⟩
   obtain ⟨Y,hsp⟩:=hsp
   refine Wq<|qW 30 31 rfl<|qK rfl<|Nl<|Wq<|Wt rfl ‹_›<|Wu<|Wq<|Wb<|Wq<|qW 35 39 rfl<|qJ rfl rfl ty80 ty142 (by omega)<|Od rfl rfl (Lg rfl rfl ty142 rfl (mems_tk hc2))<|qB rfl ty142<|qS rfl ty142 (Sl rfl) rfl<|Nl<|Wq<|qW 43 47 rfl<|qF rfl ty142 rfl<|qL rfl ty138 rfl<|qH rfl ty138<|qM rfl<|Nl ?_
   generalize A[i].ports=ps at *
   generalize (A.take i).flatMap (·.ports)=X at *
   rw [show X=X++ps.take 0 from by simp]
   refine Wb<|W.rename [(0,0),(1,1)] 2 (T':=up (up (up (up (up (up (up (up (up mt 1 (some (.own 0 0))) 3 (some (.osl 1 0 (R++selP (X++ps.take 0) n).length 10))) 4 (some (.base (.int .i64 (n:Int))))) 14 (some (.isl (memsC A) A.length))) 15 (some (.base (.int .i64 (A.length:Int))))) 16 (some (.base (.int .i64 (i:Int))))) 21 (some (.isl (prtsC ps) ps.length))) 22 (some (.base (.int .i64 (ps.length:Int))))) 23 (some (.base (.int .i64 (0:Int))))) (H':=up (up mt 0 (some (dbC d))) 1 (some (prtsC (R++selP (X++ps.take 0) n)))) (by decide) ?_ ?_ ?_
   ·exact aU (lR rfl) (aU (lR rfl) (aU (lR rfl) (aU (lR rfl) (aU (lR rfl) (aU (lR rfl) (aU (lR rfl) (aU (lI rfl) (aU (lI rfl) aM))))))))
   ·exact aU (kP rfl (prtsC_pure _)) (aU (kR rfl) aM)
   refine W.loop_ind (α:=Nat) (fun x=>ps.length - x) 2 (fun x=>up (up (up (up (up (up (up (up (up mt 1 (some (.own 0 0))) 3 (some (.osl 1 0 (R++selP (X++ps.take x) n).length 10))) 4 (some (.base (.int .i64 (n:Int))))) 14 (some (.isl (memsC A) A.length))) 15 (some (.base (.int .i64 (A.length:Int))))) 16 (some (.base (.int .i64 (i:Int))))) 21 (some (.isl (prtsC ps) ps.length))) 22 (some (.base (.int .i64 (ps.length:Int))))) 23 (some (.base (.int .i64 (x:Int))))) (fun x=>up (up mt 0 (some (dbC d))) 1 (some (prtsC (R++selP (X++ps.take x) n)))) (fun x=>x≤ps.length) 0 (show 0≤ps.length from Nat.zero_le _) ?_
   rintro j hIC ihC
   try (dsimp only at hIC)
   try dsimp only
   by_cases hc3:j < ps.length
   ·have g3:decide ((j:Int) < (ps.length:Int))=true:=decide_eq_true (by omega)
    have hQ:X++ps.take (j + 1)=(X++ps.take j)++[ps[j]]:=by rw [List.take_add_one,← List.append_assoc];simp [hc3]
    have hlen:(R++selP (X++ps.take (j + 1)) n).length≤1000:=hpre _ (selP (ps.drop (j + 1)++Y) n) (by
     rw [← selP_app,hsp]
     congr 1
     conv=>lhs;rw [← List.take_append_drop (j + 1) ps]
     simp only [List.append_assoc])
    have hpo:=hps _ (List.getElem_mem hc3)
    have hcp:=copyPort_any ps[j] (fun m h=>hpo.macs m h) (by have:=hpo.nm;omega)
    rw [hQ] at hlen
    refine Wq<|qW 51 52 rfl<|qK rfl<|Nl<|Wq<|Wt rfl ‹_›<|Wu<|Wq<|Wb<|Wq<|qW 56 60 rfl<|qJ rfl rfl ty138 ty186 (by omega)<|Od rfl rfl (Lg rfl rfl ty186 rfl (prts_tk hc3))<|qB rfl ty186<|qS rfl ty186 (Sl rfl) rfl<|Nl ?_
    generalize ps[j]=p at *
    generalize X++ps.take j=Q at *
    cases he:(p.id == (n:Int))
    ·have e:R++selP Q n=R++selP (X++ps.take (j + 1)) n:=by
      rw [hQ,selP_app,show selP [p] n=[] from by simp [selP,he],List.append_nil]
     refine Wq<|qW 64 68 rfl<|qF rfl ty186 rfl<|qL rfl ty3 rfl<|qM rfl<|qE rfl<|Nl<|Wo rfl ‹_›<|Wu<|qW 82 84 rfl<|qZ rfl (iW _ (by omega))<|qM rfl<|Nl ?_
     rw [e]
     refine WL.rename [(0,0),(1,1)] 2 (by decide) ?_ ?_ (ihC (j + 1) (show ps.length - (j + 1) < ps.length - j from by omega) (show (j + 1)≤ps.length from by omega))
     ·exact aU (lR rfl) (aU (lR rfl) (aU (lR rfl) (aU (lR rfl) (aU (lR rfl) (aU (lR rfl) (aU (lR rfl) (aU (lI rfl) (aU (lI rfl) aM))))))))
     ·exact aU (kP rfl (prtsC_pure _)) (aU (kR rfl) aM)
    ·have e:(R++selP Q n)++[p]=R++selP (X++ps.take (j + 1)) n:=by
      rw [hQ,selP_app,show selP [p] n=[p] from by simp [selP,he],List.append_assoc]
     rw [selP_app,show selP [p] n=[p] from by simp [selP,he],← List.append_assoc,List.length_append,List.length_singleton] at hlen
     generalize R++selP Q n=B at *
     refine Wq<|qW 64 68 rfl<|qF rfl ty186 rfl<|qL rfl ty3 rfl<|qM rfl<|qE rfl<|Nl<|Wt rfl ‹_›<|qW 72 78 rfl<|qM rfl<|qG rfl ty186 rfl (Tl rfl)<|qY rfl (hcp) fok107 rfl<|Od rfl rfl (LO.buildSlice rfl ty138 ty186 (by decide) (by decide) (.cons rfl rfl rfl rfl (Sl rfl) .nil))<|Od rfl rfl (Lap rfl rfl (Sso rfl rfl (Tl rfl)) rfl (prts_all rfl) ty138 ty138 ty186 (by decide) (by omega) (by omega) (by decide))<|qA rfl<|Nl ?_
     rw [show prtsC B++[.base (.int .i64 p.id),.base (.int .i64 p.sw),.base (.int .i64 p.speed),.isl (macsC p.macs) p.macs.length,.base (.bool p.v4.v6),.base (.int .u64 p.v4.hi),.base (.int .u64 p.v4.lo),.base (.bool p.v6.v6),.base (.int .u64 p.v6.hi),.base (.int .u64 p.v6.lo)]=prtsC (B++[p]) from by simp [prtsC,prtC,adC],show B.length + 1=(B++[p]).length from by simp,e]
     refine qW 82 84 rfl<|qZ rfl (iW _ (by omega))<|qM rfl<|Nl<|WL.rename [(0,0),(1,76)] 2 (by decide) ?_ ?_ (ihC (j + 1) (show ps.length - (j + 1) < ps.length - j from by omega) (show (j + 1)≤ps.length from by omega))
     ·exact aU (lR rfl) (aU (lR rfl) (aU (lR rfl) (aU (lR rfl) (aU (lR rfl) (aU (lR rfl) (aU (lR rfl) (aU (lI rfl) (aU (lI rfl) aM))))))))
     ·exact aU (kP rfl (prtsC_pure _)) (aU (kR rfl) aM)
   ·have g3:decide ((j:Int) < (ps.length:Int))=false:=decide_eq_false (by omega)
    refine Wq<|qW 51 52 rfl<|qK rfl<|Nl<|Wq<|Wo rfl ‹_›<|Wx ?_
    clear ihC
    obtain rfl:j=ps.length:=by omega
    rw [List.take_length,← hfl]
    refine qW 88 90 rfl<|qZ rfl (iW _ (by omega))<|qM rfl<|Nl<|WL.rename [(0,0),(1,1)] 2 (by decide) ?_ ?_ (ihB (i + 1) (show A.length - (i + 1) < A.length - i from by omega) (show (i + 1)≤A.length from by omega))
    ·exact aU (lR rfl) (aU (lR rfl) (aU (lR rfl) (aU (lR rfl) (aU (lI rfl) (aU (lI rfl) aM)))))
    ·exact aU (kP rfl (prtsC_pure _)) (aU (kR rfl) aM)
  ·have g2:decide ((i:Int) < (A.length:Int))=false:=decide_eq_false (by omega)
   refine Wq<|qW 30 31 rfl<|qK rfl<|Nl<|Wq<|Wo rfl ‹_›<|Wx ?_
   clear ihB
   obtain rfl:i=A.length:=by omega
   rw [List.take_length,← hZ,hnext]
   refine qW 94 97 rfl<|qM rfl<|qZ rfl (iW _ (by omega))<|qA rfl<|Nl<|WL.rename [(0,0),(1,1)] 2 (by decide) ?_ ?_ (ihA (n + 1) (show 1000 - (n + 1) < 1000 - n from by omega) (show (n + 1)≤1000 from by omega))
   ·exact aU (lR rfl) (aU (lI rfl) (aU (lI rfl) aM))
   ·exact aU (kP rfl (prtsC_pure _)) (aU (kR rfl) aM)
 ·have g1:decide ((n:Int)≤999)=false:=decide_eq_false (by omega)
  refine Wq<|Wq<|qW 16 18 rfl<|qM rfl<|qLe rfl<|Nl<|Wo rfl ‹_›<|Wx ?_
  clear ihA
  obtain rfl:n=1000:=by omega
  refine Wq<|qW 101 103 rfl<|qM rfl<|qA rfl<|Nl<|Wy (t:=2) rfl rfl (prts_all rfl) (prtsC_pure _)<|Wz ⟨.inl rfl,_,mt,Rc (Rt0 rfl) (Rv),aM,?_⟩
  exact ⟨rfl,rfl⟩
end Go.Proofs.YtndbhhgmpjjjhaaGreatDoor
namespace Go.Proofs.YtndbhhgmpjjjhaaGreatDoor
open Go.RowKit
def eqP4 (a b:Ad) (m n:Int):Bool:=eqA a b && m == n
theorem eqP4_in (d:Nat) (a b:Ad) (m n:Int) (w:World):(Op.equalIn (d + 3) 36 (.agg #[.bool a.v6,.int .u64 a.hi,.int .u64 a.lo,.int .i64 m]) (.agg #[.bool b.v6,.int .u64 b.hi,.int .u64 b.lo,.int .i64 n])).run Tryz.prog w=.ok (eqP4 a b m n) w:=by
 rw [run_equalIn_struct w (d + 2) 36 _ _ (by kernel_rfl) (by kernel_rfl)]
 have hu:=Tryz.underlying36
 have hua:=Tryz.underlying34
 have hi:=Tryz.underlying3
 have sa:∀ w:World,(sizeOf 34).run Tryz.prog w=.ok 3 w:=fun w=>(ty34).sizeOf w
 have ea:=fun w=>eqAd_in d a b w
 simp [Program.fieldsOf,hu,Op.eqFields,part,isAgg,run_underlying hua,run_underlying hi,sa,run_equalIn_int _ _ _ _ _ _ _ hi,ea]
 unfold eqP4
 by_cases h:m=n<;>cases eqA a b<;>simp [h]
section
variable (o:Oper) (E:Operand→Option AV) (L:HL) (N:Nat)
def notB (neg b:Bool):Bool:=if neg then !b else b
def eAggCmp (neg:Bool) (t:TypeId) (x y:Operand):Option Res:=match E x,E y with
 | some (.agg [.base (.bool v),.base (.int .u64 h),.base (.int .u64 l)]),some (.agg [.base (.bool v'),.base (.int .u64 h'),.base (.int .u64 l')])=>match Nat.beq t 34 with
  | true=>some ⟨[],[],.base (.bool (notB neg (eqA { v6:=v,hi:=h,lo:=l } { v6:=v',hi:=h',lo:=l' }))),L⟩
  | false=>none
 | some (.agg [.base (.bool v),.base (.int .u64 h),.base (.int .u64 l),.base (.int .i64 m)]),some (.agg [.base (.bool v'),.base (.int .u64 h'),.base (.int .u64 l'),.base (.int .i64 m')])=>match Nat.beq t 36 with
  | true=>some ⟨[],[],.base (.bool (notB neg (eqP4 { v6:=v,hi:=h,lo:=l } { v6:=v',hi:=h',lo:=l' } m m'))),L⟩
  | false=>none
 | some (.agg [.base (.int .u8 a0),.base (.int .u8 a1),.base (.int .u8 a2),.base (.int .u8 a3),.base (.int .u8 a4),.base (.int .u8 a5)]),some (.agg [.base (.int .u8 b0),.base (.int .u8 b1),.base (.int .u8 b2),.base (.int .u8 b3),.base (.int .u8 b4),.base (.int .u8 b5)])=>match Nat.beq t 93 with
  | true=>some ⟨[],[],.base (.bool (notB neg (decide ([a0,a1,a2,a3,a4,a5]=[b0,b1,b2,b3,b4,b5])))),L⟩
  | false=>none
 | _,_=>none
theorem eAggCmp_ok {neg:Bool} {t ty:TypeId} {x y:Operand} {R:Res} (ho:o.op=.binOp (if neg then .neq else .eql) t x y ty) (h:eAggCmp E L neg t x y=some R):LO Tryz.prog o E (lkH L) N R.rd R.wr R.v (lkH R.L):=by
 unfold eAggCmp at h
 split at h<;>first|(cases h;done)|skip
 ·rename_i v hh l v' h' l' hx hy
  split at h<;>first|(cases h;done)|skip
  rename_i ht
  have:=Nat.eq_of_beq_eq_true ht
  subst this
  injection h with h;subst h
  exact LO.eqBases neg [.bool v,.int .u64 hh,.int .u64 l] [.bool v',.int .u64 h',.int .u64 l'] ho hx hy rfl rfl (guardRun x y neg (by kernel_rfl)) (eqAd_in 9998 { v6:=v,hi:=hh,lo:=l } { v6:=v',hi:=h',lo:=l' })
 ·rename_i v hh l m v' h' l' m' hx hy
  split at h<;>first|(cases h;done)|skip
  rename_i ht
  have:=Nat.eq_of_beq_eq_true ht
  subst this
  injection h with h;subst h
  exact LO.eqBases neg [.bool v,.int .u64 hh,.int .u64 l,.int .i64 m] [.bool v',.int .u64 h',.int .u64 l',.int .i64 m'] ho hx hy rfl rfl (guardRun x y neg (by kernel_rfl)) (eqP4_in 9997 { v6:=v,hi:=hh,lo:=l } { v6:=v',hi:=h',lo:=l' } m m')
 ·rename_i a0 a1 a2 a3 a4 a5 b0 b1 b2 b3 b4 b5 hx hy
  split at h<;>first|(cases h;done)|skip
  rename_i ht
  have:=Nat.eq_of_beq_eq_true ht
  subst this
  injection h with h;subst h
  exact LO.eqBases neg ([a0,a1,a2,a3,a4,a5].map (Value.int .u8)) ([b0,b1,b2,b3,b4,b5].map (Value.int .u8)) ho hx hy rfl rfl (guardRun x y neg (by kernel_rfl)) (eqMac_in 9998 rfl rfl)
end
end Go.Proofs.YtndbhhgmpjjjhaaGreatDoor
namespace Go.Proofs.YtndbhhgmpjjjhaaGreatDoor
open Go.RowKit
section
variable {P:Program} {o:Oper} {E:Operand→Option AV} {H:Hp} {f:Nat} {t:TypeId} {l:Lay} {size bytes:Nat} {zs:List AV} {x:Operand}
theorem LO.allocT (ho:o.op=.alloc t) (ht:TyOK P t l size bytes (.base (.pointer none)::zs)):LO P o E H f [] [f] (.own f 0) (up H f (some (.tyOf f t size::zs))):=by
 obtain ⟨z,hz,hzs,hzm,hzl,h1⟩:=ht.zeroV
 refine ⟨fun r hr=>up_ne (by simpa using hr),fun E' K hE hK X φ w ρ hR hst hf=>?_⟩
 rw [ovr_one]
 have hg:=(Good.zero (X:=X) (w:=w) (φ:=φ) hzm h1).2
 have hrun:(execOp ρ o).run P w=.ok (.value (.pointer (some ⟨w.heap.size,0,none⟩))) (w.alloc (.cells z.cells t)):=by
  simp [execOp,ho,Instr.alloc,hz,newVar,newRow,newObj,Sem.run,Pure.pure]
 have hnew:(w.alloc (.cells z.cells t)).heap[w.heap.size]?=some (.cells z.cells t (0,0)):=heap_alloc_new w _
 have hbst:bst (w.alloc (.cells z.cells t)) w.heap.size=(size + 1,t + 1):=by
  unfold bst
  rw [bsz_of hnew]
  unfold bel
  rw [hnew]
  rw [hzs]
 obtain ⟨k1,k2,k3,k4⟩:=hst.freshB (w':=w.alloc (.cells z.cells t)) (ob:=.cells z.cells t) (cs:=.tyOf f t size::zs) hf rfl rfl rfl rfl fun hk=>.cells z.cells t hnew fun j a hj=>by
  match j with
  | 0 =>
   simp at hj
   subst hj
   obtain ⟨_,u,hu,hr⟩:=hg 0 _ rfl
   rw [hr.base_eq] at hu
   exact ⟨rfl,.pointer none,hu,.tyOf f t size w.heap.size (if_pos rfl) hbst⟩
  | j + 1 =>
   obtain ⟨g1,u,g2,g3⟩:=hg (j + 1) a (by simpa using hj)
   exact ⟨g1,u,by rw [Nat.zero_add];exact g2,hk _ _ g3⟩
 unfold OpW
 rw [hrun]
 refine ⟨_,_,k1,k2,.own f 0 w.heap.size 0 k4 ?_⟩
 rw [bsz_of hnew]
 omega
theorem tyOf_at {X:Nat→Prop} {φ:Em} {w:World} {K:Hp} {r n b o':Nat} (hst:St X φ K w) (hK:K r=some (.tyOf r t n::zs)) (hp:φ r=some (b,o')) (h0:0 < bsz w b):o'=0∧w.shape? b=some (t,n):=by
 obtain ⟨c,el,hX,hcell,hcs⟩:=hst.cells hK hp h0
 obtain ⟨_,u,hu,hr⟩:=hcs 0 _ rfl
 cases hr with
 | tyOf _ _ _ b2 h1 h2 =>
  rw [hp] at h1
  injection h1 with h1
  injection h1 with e1 e2
  subst e1 e2
  have e3:bsz w b=n + 1:=congrArg Prod.fst h2
  have e4:bel w b=t + 1:=congrArg Prod.snd h2
  rw [bsz_of hcell] at e3
  unfold bel at e4
  rw [hcell] at e4
  simp only [Nat.add_right_cancel_iff] at e3 e4
  refine ⟨rfl,?_⟩
  simp [World.shape?,hcell,e3,e4]
theorem LO.toUnsafe {r n s d te:Nat} {j:TypeInfo} (ho:o.op=.convert s d x) (hx:E x=some (.own r 0)) (hH:H r=some (.tyOf r t n::zs)) (hn:0 < n) (hs:P.underlying s=some (.pointer te)) (hd:P.underlying d=some .unsafePointer) (ht:P.info? te=some j) (hj:j.size≠0):LO P o E H f [r] [] (.own r 0) H :=
 .read r fun X φ w ρ K hR hK hst=>by
  obtain ⟨b,o',hp,e1,hb0⟩:=(hR x (by simp [ho,Op.operands]) _ hx).own_inv
  obtain ⟨rfl,hsh⟩:=tyOf_at hst (hK.trans hH) hp hb0
  have hrun:=Lib.run_to_unsafe (P:=P) w ⟨b,0 + 0,none⟩ hs hd ht hj hsh (by simpa using hn)
  exact ⟨_,by simp only [execOp,ho,e1,Sem.run_bind,hrun,Result.andThen_ok,Sem.run_pure],.own r 0 b 0 hp hb0⟩
theorem LO.fromUnsafe {r n s d u:Nat} {j:TypeInfo} (ho:o.op=.convert s d x) (hx:E x=some (.own r 0)) (hH:H r=some (.tyOf r t n::zs)) (hs:P.underlying s=some .unsafePointer) (hd:P.underlying d=some (.pointer u)) (hu:P.info? u=some j) (hl:liesAt P P.depth t (n / P.cellsOf t) 0 u 1=true):LO P o E H f [r] [] (.own r 0) H :=
 .read r fun X φ w ρ K hR hK hst=>by
  obtain ⟨b,o',hp,e1,hb0⟩:=(hR x (by simp [ho,Op.operands]) _ hx).own_inv
  obtain ⟨rfl,hsh⟩:=tyOf_at hst (hK.trans hH) hp hb0
  have hrun:=Lib.run_from_unsafe (P:=P) w ⟨b,0 + 0,none⟩ hs hd hu hsh hl
  exact ⟨_,by simp only [execOp,ho,e1,Sem.run_bind,hrun,Result.andThen_ok,Sem.run_pure],.own r 0 b 0 hp hb0⟩
end
end Go.Proofs.YtndbhhgmpjjjhaaGreatDoor
namespace Go.Proofs.YtndbhhgmpjjjhaaGreatDoor
open Go.RowKit
def cpE (cs:List AV) (k:Nat) (ns:List AV):Option (List AV):=match spE cs k ns with
 | some r=>some r
 | none=>match Nat.beq k cs.length with
  | true=>some (cs++ns)
  | false=>none
theorem cpE_ok {cs ns cs':List AV} {k:Nat} (h:cpE cs k ns=some cs'):Cp cs k ns cs':=by
 unfold cpE at h
 split at h
 ·rename_i r hr
  injection h with h;subst h
  exact .of (spE_ok hr)
 ·split at h<;>first|(cases h;done)|skip
  rename_i hk
  injection h with h;subst h
  exact .app (Nat.eq_of_beq_eq_true hk)
section
variable {P:Program} (Y:Tys P) (o:Oper) (E:Operand→Option AV) (L:HL) (N:Nat)
def eCopy (t tx:TypeId) (x y:Operand):Option Res:=match E x,Y.tab t with
 | some (.osl r off len sz),some (.sl e,_,_,_)=>match Y.tab e with
  | some (_,sz',_,_)=>match Nat.beq sz sz' with
   | true=>match E y with
    | some (.osl r' off' m sz2)=>match Y.tab tx,lkH L r',lkH L r with
     | some (.sl _,_,_,_),some cs',some cs=>match Nat.beq sz sz2 && Nat.blt 0 sz && Nat.blt 0 m && Nat.ble m len with
      | true=>match tkE cs' off' (m * sz2) with
       | some ns=>match cpE cs off ns with
        | some cs2=>some ⟨[r'],[r],.base (.int .i64 (m:Int)),putH L r cs2⟩
        | none=>none
       | none=>none
      | false=>none
     | _,_,_=>none
    | some a=>match a.isl? with
     | some (_ns,0)=>some ⟨[],[],.base (.int .i64 0),L⟩
     | some (ns,m)=>match Y.tab tx,lkH L r with
      | some (.sl _,_,_,_),some cs=>match Nat.beq ns.length (m * sz) && Nat.blt 0 sz && Nat.blt 0 m && Nat.ble m len with
       | true=>match cpE cs off ns with
        | some cs2=>some ⟨[],[r],.base (.int .i64 (m:Int)),putH L r cs2⟩
        | none=>none
       | false=>none
      | _,_=>none
     | none=>none
    | none=>none
   | false=>none
  | none=>none
 | _,_=>none
theorem eCopy_ok {t tx:TypeId} {x y:Operand} {R:Res} (ho:o.op=.call { callee:=.builtin .copy,args:=#[x,y],argTypes:=#[t,tx] }) (h:eCopy Y E L t tx x y=some R):LO P o E (lkH L) N R.rd R.wr R.v (lkH R.L):=by
 unfold eCopy at h
 split at h<;>first|(cases h;done)|skip
 rename_i r off len sz e s b z hx ht
 split at h<;>first|(cases h;done)|skip
 rename_i l' sz' b' z' he
 split at h<;>first|(cases h;done)|skip
 rename_i hsz
 have:=Nat.eq_of_beq_eq_true hsz
 subst this
 split at h<;>first|(cases h;done)|skip
 ·rename_i r' off' m sz2 hy
  split at h<;>first|(cases h;done)|skip
  rename_i e2 s2 b2 z2 cs' cs htx hl' hl
  split at h<;>first|(cases h;done)|skip
  rename_i hg
  simp only [Bool.and_eq_true,Nat.blt_eq,Nat.ble_eq] at hg
  have:=Nat.eq_of_beq_eq_true hg.1.1.1
  subst this
  split at h<;>first|(cases h;done)|skip
  rename_i ns hns
  split at h<;>first|(cases h;done)|skip
  rename_i cs2 hs
  injection h with h;subst h
  simp only [lk_put]
  exact .copy ho hx (.own hy hl' (tkE_ok hns)) hl (cpE_ok hs) (Y.ok _ _ _ _ _ ht) (Y.ok _ _ _ _ _ htx) (Y.ok _ _ _ _ _ he) hg.1.1.2 hg.1.2 hg.2
 ·rename_i a _ hy
  split at h<;>first|(cases h;done)|skip
  ·rename_i ns ha
   injection h with h;subst h
   exact .copy_nil ho hx hy ha (Y.ok _ _ _ _ _ ht) (Y.ok _ _ _ _ _ he)
  ·rename_i ns m _ ha
   split at h<;>first|(cases h;done)|skip
   rename_i e2 s2 b2 z2 cs htx hl
   split at h<;>first|(cases h;done)|skip
   rename_i hg
   simp only [Bool.and_eq_true,Nat.blt_eq,Nat.ble_eq] at hg
   split at h<;>first|(cases h;done)|skip
   rename_i cs2 hs
   injection h with h;subst h
   simp only [lk_put]
   exact .copy ho hx (.isl hy ha (Nat.eq_of_beq_eq_true hg.1.1.1)) hl (cpE_ok hs) (Y.ok _ _ _ _ _ ht) (Y.ok _ _ _ _ _ htx) (Y.ok _ _ _ _ _ he) hg.1.1.2 hg.1.2 hg.2
def bytesE:List AV→Option (List Int)
 | []=>some []
 | .base (.int .u8 z)::l=>match bytesE l with
  | some xs=>some (z::xs)
  | none=>none
 | _::_=>none
theorem bytesE_ok:∀ {l:List AV} {xs:List Int},bytesE l=some xs→l=xs.map fun z=>.base (.int .u8 z):=by
 intro l
 induction l with
 | nil=>intro xs h;injection h with h;subst h;rfl
 | cons a l ih =>
  intro xs h
  unfold bytesE at h
  split at h<;>first|(cases h;done)|skip
  ·rename_i hn;injection hn
  ·rename_i z l2 he
   split at h<;>first|(cases h;done)|skip
   rename_i xs2 hxs
   injection h with h;subst h
   injection he with e1 e2
   subst e1 e2
   rw [ih hxs];rfl
def eConv2 (s t:TypeId) (x:Operand):Option Res:=match Y.tab s,Y.tab t with
 | some (.sl e,_,_,_),some (.str,_,_,_)=>match Y.tab e with
  | some (.int .u8,_,_,_)=>match E x with
   | some (.osl r off n sz)=>match lkH L r with
    | some cs=>match Nat.beq sz 1 with
     | true=>match tkE cs off (n * 1) with
      | some vs=>match bytesE vs with
       | some xs=>some ⟨[r],[],.base (.string (strOfNums xs)),L⟩
       | none=>none
      | none=>none
     | false=>none
    | none=>none
   | some (.isl cs n)=>match bytesE cs with
    | some xs=>match Nat.beq xs.length n with
     | true=>some ⟨[],[],.base (.string (strOfNums xs)),L⟩
     | false=>none
    | none=>none
   | _=>none
  | _=>none
 | some (.str,_,_,_),some (.sl e,_,_,_)=>match Y.tab e with
  | some (.int .u8,_,_,_)=>match E x with
   | some (.base (.string ⟨⟨l⟩⟩))=>some ⟨[],[],.isl (l.map fun c=>.base (.int .u8 (c.toNat:Int))) l.length,L⟩
   | _=>none
  | _=>none
 | _,_=>none
theorem eConv2_ok {s t:TypeId} {x:Operand} {R:Res} (ho:o.op=.convert s t x) (h:eConv2 Y E L s t x=some R):LO P o E (lkH L) N R.rd R.wr R.v (lkH R.L):=by
 unfold eConv2 at h
 split at h<;>first|(cases h;done)|skip
 ·rename_i e s1 b1 z1 s2 b2 z2 hs ht
  split at h<;>first|(cases h;done)|skip
  rename_i s3 b3 z3 he
  split at h<;>first|(cases h;done)|skip
  ·rename_i r off n sz hx
   split at h<;>first|(cases h;done)|skip
   rename_i cs hl
   split at h<;>first|(cases h;done)|skip
   rename_i hsz
   have:=Nat.eq_of_beq_eq_true hsz
   subst this
   split at h<;>first|(cases h;done)|skip
   rename_i vs hv
   split at h<;>first|(cases h;done)|skip
   rename_i xs hxs
   injection h with h;subst h
   have e1:=bytesE_ok hxs
   have hv':=tkE_ok hv
   have hn:xs.length=n:=by have:=hv'.1;rw [e1,List.length_map] at this;omega
   subst hn
   rw [e1] at hv'
   exact .strO ho hx hl hv' (lay_sl (Y.ok _ _ _ _ _ hs)) (lay_int (Y.ok _ _ _ _ _ he)) (lay_str (Y.ok _ _ _ _ _ ht))
  ·rename_i cs n hx
   split at h<;>first|(cases h;done)|skip
   rename_i xs hxs
   split at h<;>first|(cases h;done)|skip
   rename_i hn
   have:=Nat.eq_of_beq_eq_true hn
   subst this
   injection h with h;subst h
   rw [bytesE_ok hxs] at hx
   exact .str ho hx (lay_sl (Y.ok _ _ _ _ _ hs)) (lay_int (Y.ok _ _ _ _ _ he)) (lay_str (Y.ok _ _ _ _ _ ht))
 ·rename_i s1 b1 z1 e s2 b2 z2 hs ht
  split at h<;>first|(cases h;done)|skip
  rename_i s3 b3 z3 he
  split at h<;>first|(cases h;done)|skip
  rename_i l hx
  injection h with h;subst h
  exact .toBytes (b:=⟨⟨l⟩⟩) ho hx (lay_str (Y.ok _ _ _ _ _ hs)) (lay_sl (Y.ok _ _ _ _ _ ht)) (lay_int (Y.ok _ _ _ _ _ he))
def eSliceAr (t:TypeId) (x:Operand) (lo hi:Option Operand):Option Res:=match E x,Y.tab t with
 | some (.own r off),some (.arr len e,_,_,_)=>match Y.tab e,lkH L r with
  | some (_,sz,_,_),some cs=>match bndE E lo 0,bndE E hi len with
   | some m,some n=>match Nat.ble m n && Nat.ble n len && Nat.ble (off + len * sz) cs.length && Nat.blt 0 cs.length with
    | true=>some ⟨[r],[],.osl r (off + m * sz) (n - m) sz,L⟩
    | false=>none
   | _,_=>none
  | _,_=>none
 | _,_=>none
theorem eSliceAr_ok {t:TypeId} {x:Operand} {lo hi:Option Operand} {R:Res} (ho:o.op=.slice t x lo hi none) (h:eSliceAr Y E L t x lo hi=some R):LO P o E (lkH L) N R.rd R.wr R.v (lkH R.L):=by
 unfold eSliceAr at h
 split at h<;>first|(cases h;done)|skip
 rename_i r off len e s b z hx ht
 split at h<;>first|(cases h;done)|skip
 rename_i l' sz b' z' cs he hl
 split at h<;>first|(cases h;done)|skip
 rename_i m n hm hn
 split at h<;>first|(cases h;done)|skip
 rename_i hg
 simp only [Bool.and_eq_true,Nat.ble_eq,Nat.blt_eq] at hg
 injection h with h;subst h
 exact .sliceAr ho hx hl hg.1.2 hg.2 (bndE_ok E hm) (bndE_ok E hn) hg.1.1.1 hg.1.1.2 (Y.ok _ _ _ _ _ ht) (Y.ok _ _ _ _ _ he)
def eToArr (t:TypeId) (x:Operand):Option Res:=match Y.tab t with
 | some (.arr n _,_,_,_)=>match Nat.blt 0 n with
  | true=>match E x with
   | some (.osl r off len _)=>match Nat.ble n len with
    | true=>some ⟨[],[],.own r off,L⟩
    | false=>none
   | some a=>match a.isl? with
    | some (cs,len)=>match Nat.ble n len with
     | true=>some ⟨[],[],.imm cs 0,L⟩
     | false=>none
    | none=>none
   | none=>none
  | false=>none
 | _=>none
theorem eToArr_ok {t:TypeId} {x:Operand} {R:Res} (ho:o.op=.sliceToArrayPointer t x) (h:eToArr Y E L t x=some R):LO P o E (lkH L) N R.rd R.wr R.v (lkH R.L):=by
 unfold eToArr at h
 split at h<;>first|(cases h;done)|skip
 rename_i n e s b z ht
 split at h<;>first|(cases h;done)|skip
 rename_i h0
 have h0:0 < n:=by simpa using h0
 split at h<;>first|(cases h;done)|skip
 ·rename_i r off len sz hx
  split at h<;>first|(cases h;done)|skip
  rename_i hl
  injection h with h;subst h
  exact .toArrO ho hx (Y.ok _ _ _ _ _ ht) h0 (Nat.le_of_ble_eq_true hl)
 ·rename_i a _ hx
  split at h<;>first|(cases h;done)|skip
  rename_i cs len ha
  split at h<;>first|(cases h;done)|skip
  rename_i hl
  injection h with h;subst h
  exact .toArr ho hx ha (Y.ok _ _ _ _ _ ht) h0 (Nat.le_of_ble_eq_true hl)
def eCap (t:TypeId) (x:Operand):Option Res:=match E x,Y.tab t with
 | some .nils,some (.sl _,_,_,_)=>some ⟨[],[],.base (.int .i64 0),L⟩
 | _,_=>none
theorem eCap_ok {t:TypeId} {x:Operand} {R:Res} (ho:o.op=.call { callee:=.builtin .cap,args:=#[x],argTypes:=#[t] }) (h:eCap Y E L t x=some R):LO P o E (lkH L) N R.rd R.wr R.v (lkH R.L):=by
 unfold eCap at h
 split at h<;>first|(cases h;done)|skip
 rename_i hx ht
 injection h with h;subst h
 exact .cap_nil ho hx (Y.ok _ _ _ _ _ ht)
end
end Go.Proofs.YtndbhhgmpjjjhaaGreatDoor
namespace Go.Proofs.YtndbhhgmpjjjhaaGreatDoor
open Go.RowKit
theorem tyG338:TyOK Tryz.prog 338 (.arr 256 4) 256 256 (List.replicate 256 (.base (.bool false))):=by unfold TyOK;kernel_rfl
theorem tyG399:TyOK Tryz.prog 399 (.arr 65 5) 65 65 (List.replicate 65 (.base (.int .u8 0))):=by unfold TyOK;kernel_rfl
end Go.Proofs.YtndbhhgmpjjjhaaGreatDoor
