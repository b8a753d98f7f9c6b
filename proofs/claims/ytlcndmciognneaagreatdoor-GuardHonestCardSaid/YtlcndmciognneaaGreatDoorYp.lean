/-
  A right port passes its package's check. No port of a right member is wrong: slices.ContainsFunc with the package's check. The set of letters that strings.Trim makes. The letters of a name, as strings.Trim collects them. A name of right letters is trimmed to nothing. A right name is one: strings.Trim leaves nothing of it. A right name passes its package's check. Right members pass member.alone. One address as a slice, or none. What occurs for the first time is noted in a map: the generic once.
-/
import Derived.Test.YtlcndmciognneaaGreatDoorYf
import Derived.Test.YtlcndmciognneaaGreatDoorRc
import Derived.Test.YtlcndmciognneaaGreatDoorMab
namespace Go.Proofs.YtlcndmciognneaaGreatDoor
open Go.RowKit
theorem grpE_no {m:List Int} (hB:IsB m) (h:grpM m=false):grpE m=false:=by
 cases m with
 | nil=>rfl
 | cons x r=>rw [← grp_eq (hB x (by simp)) r];exact h
set_option maxHeartbeats 1000000 in
theorem portE_any (p:Prt) (hp:PrtOk p):AFn Tryz.prog 187 0 [.agg (prtC p)] mt (.base (.bool true)) mt:=by
 refine AFn.eq Tryz.func187 rfl rfl (Nat.le_of_ble_eq_true rfl) ?_
 have hnm:=hp.nm
 have hmacs:=hp.macs
 have w1:=mwithin_yes hp.id.1 hp.id.2
 have w2:=mwithin_yes hp.sw.1 hp.sw.2
 have w3:=mwithin_yes hp.speed.1 hp.speed.2
 have hv:=avalid_any p.v4
 obtain ⟨c1,c2,_,_⟩:=hp.cases4
 rw [c1] at hv
 have s0:(!p.v4.v6)=true:=by rw [c2];rfl
 have hs:(eqA p.v4 ⟨false,0,0⟩=true∧eqA p.v6 ⟨false,0,0⟩=false∧p.v6.v6=true)∨(eqA p.v4 ⟨false,0,0⟩=false∧eqA p.v6 ⟨false,0,0⟩=true)∨(eqA p.v4 ⟨false,0,0⟩=false∧eqA p.v6 ⟨false,0,0⟩=false∧p.v6.v6=true):=by
  have f6:∀ n:Fin 15,eqA (sixA (n.val:Int)) ⟨false,0,0⟩=false∧(sixA (n.val:Int)).v6=true:=by decide
  have f4:∀ n:Fin 15,eqA (fourA (n.val:Int)) ⟨false,0,0⟩=false:=by decide
  rcases hp.a4 with e|⟨n,e⟩
  ·rcases hp.a6 with e6|⟨m,e6⟩
   ·exact absurd e6 (hp.aa e)
   ·rw [e,e6];exact .inl ⟨rfl,f6 m⟩
  ·rcases hp.a6 with e6|⟨m,e6⟩
   ·rw [e,e6];exact .inr (.inl ⟨f4 n,rfl⟩)
   ·rw [e,e6];exact .inr (.inr ⟨f4 n,f6 m⟩)
 refine Wq<|qW 0 2 rfl<|qC rfl<|qA rfl<|Nl<|Wq<|Wq<|qW 6 10 rfl<|qF rfl ty157 rfl<|qL rfl ty36 rfl<|qH rfl ty36<|qM rfl<|Nl<|Wb<|W.rename [(0,0)] 1 (T':=up (up (up (up mt 1 (some (.own 0 0))) 7 (some (.isl (macsC p.macs) p.macs.length))) 8 (some (.base (.int .i64 (p.macs.length:Int))))) 9 (some (.base (.int .i64 (0:Int))))) (H':=up mt 0 (some (prtC p))) (by decide) ?_ ?_ ?_
 ·exact aU (lR rfl) (aU (lR rfl) (aU (lR rfl) (aU (lI rfl) aM)))
 ·exact aU (kR rfl) aM
 refine W.loop_ind (α:=Nat) (fun x=>p.macs.length - x) 1 (fun x=>up (up (up (up mt 1 (some (.own 0 0))) 7 (some (.isl (macsC p.macs) p.macs.length))) 8 (some (.base (.int .i64 (p.macs.length:Int))))) 9 (some (.base (.int .i64 (x:Int))))) (fun x=>up mt 0 (some (prtC p))) (fun x=>x≤p.macs.length) 0 (show 0≤p.macs.length from Nat.zero_le _) ?_
 rintro i hIA ihA
 try (dsimp only at hIA)
 try dsimp only
 by_cases hc:i < p.macs.length
 ·have g1:decide ((i:Int) < (p.macs.length:Int))=true:=decide_eq_true (by omega)
  obtain ⟨m1,m2,m3,m4⟩:=hmacs _ (List.getElem_mem hc)
  have htk:=macs_tk (fun m hm=>(hmacs m hm).1) hc
  have hgr:=grpE_any p.macs[i] m1
  rw [show grpE p.macs[i]=false from grpE_no m2 m3] at hgr
  have k1:decide (p.macs[i]=[0,0,0,0,0,0])=false:=decide_eq_false m4
  refine Wq<|qW 14 15 rfl<|qK rfl<|Nl<|Wq<|Wt rfl ‹_›<|Wu<|Wq<|Wb<|Wq<|qW 19 23 rfl<|qJ rfl rfl ty36 ty23 (by omega)<|Od rfl rfl (Lg rfl rfl ty23 rfl htk)<|qB rfl ty23<|On rfl rfl (Sr rfl rfl rfl rfl rfl ty23 ((bytesC_len _).trans m1) (by decide) (sp_all ((bytesC_len _).trans m1)))<|Nl ?_
  generalize p.macs[i]=mc at *
  refine Wq<|qW 27 34 rfl<|qG rfl ty23 rfl (bytes_tk m1)<|Od rfl rfl (C0 (fr:=[]) rfl rfl (hgr) fok73 (.cons rfl (.pure (bytesC_pure _)) .nil) rfl)<|qM rfl<|gG rfl rfl ty23 rfl (bytes_tk m1)<|qU rfl rfl rfl (LO.build_ar rfl ty23 ty5 .nil)<|qU rfl rfl rfl (LO.eql_mac mc [0,0,0,0,0,0] m1 rfl rfl rfl rfl)<|qP rfl rfl rfl<|Nl<|Wo rfl ‹_›<|Wu<|qW 43 45 rfl<|qZ rfl (iW _ (by omega))<|qM rfl<|Nl<|WL.rename [(0,0)] 1 (by decide) ?_ ?_ (ihA (i + 1) (show p.macs.length - (i + 1) < p.macs.length - i from by omega) (show (i + 1)≤p.macs.length from by omega))
  ·exact aU (lR rfl) (aU (lR rfl) (aU (lR rfl) (aU (lI rfl) aM)))
  ·exact aU (kR rfl) aM
 ·have g1:decide ((i:Int) < (p.macs.length:Int))=false:=decide_eq_false (by omega)
  refine Wq<|qW 14 15 rfl<|qK rfl<|Nl<|Wq<|Wo rfl ‹_›<|Wx ?_
  clear ihA
  refine Wq<|qW 49 52 rfl<|Od rfl rfl (Bs rfl ty54 .nil)<|qB rfl ty54<|qS rfl ty54 (Sl rfl) rfl<|Nl ?_
  rcases hs with ⟨s1,s2,s3⟩|⟨s1,s2⟩|⟨s1,s2,s3⟩
  all_goals
   have s4:(!eqA p.v4 ⟨false,0,0⟩)=(!eqA p.v4 ⟨false,0,0⟩):=rfl
   rw [s1] at s4
  ·
   have s5:(!eqA p.v6 ⟨false,0,0⟩)=true:=by rw [s2];rfl
   have s6:(!eqA p.v4 ⟨false,0,0⟩)=false:=by rw [s1];rfl
   refine Wq<|qW 56 104 rfl<|qF rfl ty157 rfl<|qL rfl ty3 rfl<|qY rfl (w1) fok182 rfl<|qM rfl<|gF rfl rfl ty157 rfl<|gL rfl rfl ty3 rfl<|gY rfl rfl (w2) fok182 rfl<|qT rfl rfl rfl<|qM rfl<|gF rfl rfl ty157 rfl<|gL rfl rfl ty3 rfl<|gY rfl rfl (w3) fok182 rfl<|qT rfl rfl rfl<|qM rfl<|gF rfl rfl ty157 rfl<|gG rfl rfl ty54 rfl (Tl rfl)<|gY rfl rfl (hv) fok174 rfl<|qT rfl rfl rfl<|qM rfl<|gF rfl rfl ty157 rfl<|gF rfl rfl ty54 rfl<|gL rfl rfl ty4 rfl<|gO rfl rfl<|qT rfl rfl rfl<|qM rfl<|gF rfl ‹_› ty157 rfl<|gG rfl ‹_› ty54 rfl (Tl rfl)<|gG rfl ‹_› ty54 rfl (Tl rfl)<|qU rfl ‹_› rfl (LO.eql_ad_b p.v6 ⟨false,0,0⟩ s2 rfl rfl rfl)<|gM rfl ‹_›<|gF rfl rfl ty157 rfl<|gF rfl rfl ty54 rfl<|gL rfl rfl ty4 rfl<|qU rfl ‹_› rfl (Pf0 rfl rfl rfl rfl)<|qT rfl ‹_› rfl<|qM rfl<|gF rfl ‹_› ty157 rfl<|gG rfl ‹_› ty54 rfl (Tl rfl)<|gG rfl ‹_› ty54 rfl (Tl rfl)<|qU rfl ‹_› rfl (LO.neq_ad_b p.v4 ⟨false,0,0⟩ s6 rfl rfl rfl)<|gM rfl ‹_›<|gF rfl rfl ty157 rfl<|gG rfl rfl ty54 rfl (Tl rfl)<|gG rfl rfl ty54 rfl (Tl rfl)<|qU rfl rfl rfl (LO.neq_ad_b p.v6 ⟨false,0,0⟩ s5 rfl rfl rfl)<|qU rfl ‹_› rfl (Pf0 rfl rfl rfl rfl)<|qT rfl ‹_› rfl<|qA rfl<|Nl<|Wz ⟨.inl rfl,_,mt,Rc (Rt rfl) (Rv),aM,?_⟩
   exact ⟨rfl,rfl⟩
  ·
   have s6:(!eqA p.v4 ⟨false,0,0⟩)=true:=by rw [s1];rfl
   refine Wq<|qW 56 104 rfl<|qF rfl ty157 rfl<|qL rfl ty3 rfl<|qY rfl (w1) fok182 rfl<|qM rfl<|gF rfl rfl ty157 rfl<|gL rfl rfl ty3 rfl<|gY rfl rfl (w2) fok182 rfl<|qT rfl rfl rfl<|qM rfl<|gF rfl rfl ty157 rfl<|gL rfl rfl ty3 rfl<|gY rfl rfl (w3) fok182 rfl<|qT rfl rfl rfl<|qM rfl<|gF rfl rfl ty157 rfl<|gG rfl rfl ty54 rfl (Tl rfl)<|gY rfl rfl (hv) fok174 rfl<|qT rfl rfl rfl<|qM rfl<|gF rfl rfl ty157 rfl<|gF rfl rfl ty54 rfl<|gL rfl rfl ty4 rfl<|gO rfl rfl<|qT rfl rfl rfl<|qM rfl<|gF rfl ‹_› ty157 rfl<|gG rfl ‹_› ty54 rfl (Tl rfl)<|gG rfl ‹_› ty54 rfl (Tl rfl)<|qU rfl ‹_› rfl (LO.eql_ad_b p.v6 ⟨false,0,0⟩ s2 rfl rfl rfl)<|gM rfl ‹_›<|qD rfl rfl rfl<|qD rfl rfl rfl<|qD rfl rfl rfl<|qU rfl ‹_› rfl (Pt rfl rfl rfl rfl)<|qT rfl ‹_› rfl<|qM rfl<|gF rfl rfl ty157 rfl<|gG rfl rfl ty54 rfl (Tl rfl)<|gG rfl rfl ty54 rfl (Tl rfl)<|qU rfl rfl rfl (LO.neq_ad_b p.v4 ⟨false,0,0⟩ s6 rfl rfl rfl)<|gM rfl rfl<|qD rfl rfl rfl<|qD rfl rfl rfl<|qD rfl rfl rfl<|qD rfl rfl rfl<|qU rfl rfl rfl (Pt rfl rfl rfl rfl)<|qT rfl rfl rfl<|qA rfl<|Nl<|Wz ⟨.inl rfl,_,mt,Rc (Rt rfl) (Rv),aM,?_⟩
   exact ⟨rfl,rfl⟩
  ·
   have s6:(!eqA p.v4 ⟨false,0,0⟩)=true:=by rw [s1];rfl
   refine Wq<|qW 56 104 rfl<|qF rfl ty157 rfl<|qL rfl ty3 rfl<|qY rfl (w1) fok182 rfl<|qM rfl<|gF rfl rfl ty157 rfl<|gL rfl rfl ty3 rfl<|gY rfl rfl (w2) fok182 rfl<|qT rfl rfl rfl<|qM rfl<|gF rfl rfl ty157 rfl<|gL rfl rfl ty3 rfl<|gY rfl rfl (w3) fok182 rfl<|qT rfl rfl rfl<|qM rfl<|gF rfl rfl ty157 rfl<|gG rfl rfl ty54 rfl (Tl rfl)<|gY rfl rfl (hv) fok174 rfl<|qT rfl rfl rfl<|qM rfl<|gF rfl rfl ty157 rfl<|gF rfl rfl ty54 rfl<|gL rfl rfl ty4 rfl<|gO rfl rfl<|qT rfl rfl rfl<|qM rfl<|gF rfl ‹_› ty157 rfl<|gG rfl ‹_› ty54 rfl (Tl rfl)<|gG rfl ‹_› ty54 rfl (Tl rfl)<|qU rfl ‹_› rfl (LO.eql_ad_b p.v6 ⟨false,0,0⟩ s2 rfl rfl rfl)<|gM rfl ‹_›<|gF rfl rfl ty157 rfl<|gF rfl rfl ty54 rfl<|gL rfl rfl ty4 rfl<|qU rfl ‹_› rfl (Pf0 rfl rfl rfl rfl)<|qT rfl ‹_› rfl<|qM rfl<|gF rfl ‹_› ty157 rfl<|gG rfl ‹_› ty54 rfl (Tl rfl)<|gG rfl ‹_› ty54 rfl (Tl rfl)<|qU rfl ‹_› rfl (LO.neq_ad_b p.v4 ⟨false,0,0⟩ s6 rfl rfl rfl)<|gM rfl ‹_›<|qD rfl rfl rfl<|qD rfl rfl rfl<|qD rfl rfl rfl<|qD rfl rfl rfl<|qU rfl ‹_› rfl (Pt rfl rfl rfl rfl)<|qT rfl ‹_› rfl<|qA rfl<|Nl<|Wz ⟨.inl rfl,_,mt,Rc (Rt rfl) (Rv),aM,?_⟩
   exact ⟨rfl,rfl⟩
theorem notPort_any (p:Prt) (hp:PrtOk p):AFn Tryz.prog 186 0 [.agg (prtC p)] mt (.base (.bool false)) mt:=by
 refine AFn.eq Tryz.func186 rfl rfl (Nat.le_of_ble_eq_true rfl) ?_
 have h:=portE_any p hp
 refine Wq<|qW 0 2 rfl<|qC rfl<|qA rfl<|Nl<|Wq<|qW 6 10 rfl<|qG rfl ty157 rfl (Tl rfl)<|qY rfl (h) fok187 rfl<|qO rfl<|qA rfl<|Nl<|Wz ⟨.inl rfl,_,mt,Rc (Rt rfl) (Rv),aM,?_⟩
 exact ⟨rfl,rfl⟩
theorem indexF_any (ps:List Prt) (hl:ps.length≤1000) (hp:∀ p,p∈ps→PrtOk p):AFn Tryz.prog 200 0 [.isl (prtsC ps) ps.length,.base (.func (.func 186) #[] #[])] mt (.base (.int .i64 (-1))) mt:=by
 refine AFn.eq Tryz.func200 rfl rfl (Nat.le_of_ble_eq_true rfl)<|Wq<|qW 0 1 rfl<|qA rfl<|Nl<|Wq<|Wq<|qW 5 8 rfl<|qM rfl<|qH rfl ty148<|qM rfl<|Nl<|Wb<|W.rename [] 0 (T':=up (up (up (up mt 0 (some (.isl (prtsC ps) ps.length))) 1 (some (.base (.func (.func 186) #[] #[])))) 7 (some (.base (.int .i64 (ps.length:Int))))) 8 (some (.base (.int .i64 (0:Int))))) (H':=mt) (by decide) ?_ ?_ ?_
 ·exact aU (lR rfl) (aU (lR rfl) (aU (lR rfl) (aU (lR rfl) aM)))
 ·exact aM
 refine W.loop_ind (α:=Nat) (fun x=>ps.length - x) 0 (fun x=>up (up (up (up mt 0 (some (.isl (prtsC ps) ps.length))) 1 (some (.base (.func (.func 186) #[] #[])))) 7 (some (.base (.int .i64 (ps.length:Int))))) 8 (some (.base (.int .i64 (x:Int))))) (fun x=>mt) (fun x=>x≤ps.length) 0 (show 0≤ps.length from Nat.zero_le _) ?_
 rintro i hIA ihA
 try (dsimp only at hIA)
 try dsimp only
 by_cases hc:i < ps.length
 ·have g1:decide ((i:Int) < (ps.length:Int))=true:=decide_eq_true (by omega)
  have hn:=notPort_any ps[i] (hp _ (List.getElem_mem hc))
  refine Wq<|qW 12 13 rfl<|qK rfl<|Nl<|Wq<|Wt rfl ‹_›<|Wu<|Wq<|Wb<|Wq<|qW 17 19 rfl<|qM rfl<|qA rfl<|Nl<|Wq<|qW 23 29 rfl<|qM rfl<|qM rfl<|qM rfl<|qJ rfl rfl ty148 ty157 (by omega)<|Od rfl rfl (Lg rfl rfl ty157 rfl (prts_tk hc))<|Od rfl rfl (LO.callF (fr:=[]) rfl rfl hn fok186 (.cons rfl (.pure rfl) .nil) rfl)<|Nl<|Wo rfl rfl<|Wu<|qW 39 41 rfl<|qZ rfl (iW _ (by omega))<|qM rfl<|Nl<|WL.rename [] 0 (by decide) ?_ ?_ (ihA (i + 1) (show ps.length - (i + 1) < ps.length - i from by omega) (show (i + 1)≤ps.length from by omega))
  ·exact aU (lR rfl) (aU (lR rfl) (aU (lR rfl) (aU (lR rfl) aM)))
  ·exact aM
 ·have g1:decide ((i:Int) < (ps.length:Int))=false:=decide_eq_false (by omega)
  refine Wq<|qW 12 13 rfl<|qK rfl<|Nl<|Wq<|Wo rfl ‹_›<|Wx<|Wq<|qW 45 46 rfl<|qA rfl<|Nl<|Wz ⟨.inl rfl,_,mt,Rc (Rt rfl) (Rv),aM,?_⟩
  exact ⟨rfl,rfl⟩
theorem containsF_any (ps:List Prt) (hl:ps.length≤1000) (hp:∀ p,p∈ps→PrtOk p):AFn Tryz.prog 185 0 [.isl (prtsC ps) ps.length,.base (.func (.func 186) #[] #[])] mt (.base (.bool false)) mt:=by
 refine AFn.eq Tryz.func185 rfl rfl (Nat.le_of_ble_eq_true rfl) ?_
 have h:=indexF_any ps hl hp
 refine Wq<|qW 0 1 rfl<|qA rfl<|Nl<|Wq<|qW 5 10 rfl<|qM rfl<|qM rfl<|qY rfl (h) fok200 rfl<|qGe rfl<|qA rfl<|Nl<|Wz ⟨.inl rfl,_,mt,Rc (Rt rfl) (Rv),aM,?_⟩
 exact ⟨rfl,rfl⟩
def setB (L:List Nat):List AV:=(List.range 256).map fun c=>.base (.bool (decide (c∈L)))
theorem setB_len (L:List Nat):(setB L).length=256:=by simp [setB]
theorem setB_pure (L:List Nat):(setB L).all AV.pure1=true:=by
 unfold setB
 rw [List.all_eq_true]
 intro x hx
 obtain ⟨c,_,rfl⟩:=List.mem_map.1 hx
 rfl
theorem setB_ne (L:List Nat):setB L≠[]:=fun e=>by have:=setB_len L;rw [e] at this;cases this
theorem setB_at {L:List Nat} {c:Nat} (h:c < 256):(setB L)[0 + c * 1]?=some (.base (.bool (decide (c∈L)))):=by
 rw [Nat.zero_add,Nat.mul_one]
 unfold setB
 rw [List.getElem?_map,List.getElem?_range h]
 rfl
theorem setB_add (L:List Nat) {c:Nat} (_h:c < 256):(setB L).set (0 + c * 1) (.base (.bool true))=setB (c::L):=by
 rw [Nat.zero_add,Nat.mul_one]
 apply List.ext_getElem?
 intro i
 rw [List.getElem?_set]
 unfold setB
 rw [List.getElem?_map,List.getElem?_map,List.length_map,List.length_range]
 by_cases hi:i < 256
 ·rw [List.getElem?_range hi]
  by_cases e:c=i
  ·subst e
   rw [if_pos rfl,if_pos hi]
   simp
  ·rw [if_neg e]
   have:(i∈c::L)↔i∈L:=by rw [List.mem_cons];exact ⟨fun h=>h.elim (fun h=>absurd h.symm e) id,.inr⟩
   show some (AV.base (.bool (decide (i∈L))))=some (AV.base (.bool (decide (i∈c::L))))
   rw [decide_eq_decide.2 this]
 ·rw [List.getElem?_eq_none (by simp;omega)]
  by_cases e:c=i
  ·omega
  ·rw [if_neg e]
   rfl
theorem ty235:TyOK Tryz.prog 235 (.arr 256 4) 256 256 (setB []):=by unfold TyOK;kernel_rfl
theorem inSet_any (L:List Nat) (c:Nat) (hc:c < 256):AFn Tryz.prog 213 1 [.own 0 0,.base (.int .u8 (c:Int))] (up mt 0 (some (setB L))) (.base (.bool (decide (c∈L)))) (up mt 0 (some (setB L))):=by
 refine AFn.eq Tryz.func213 rfl rfl (Nat.le_of_ble_eq_true rfl)<|Wq<|qW 1 2 rfl<|qA rfl<|Nl<|Wq<|qW 6 12 rfl<|qM rfl<|qM rfl<|Od rfl rfl (Nc rfl rfl)<|Od rfl rfl (Ir rfl rfl rfl rfl ty235 ty4 (by omega))<|Od rfl rfl (Ld rfl rfl rfl (setB_at hc) ty4 rfl)<|qA rfl<|Nl<|Wz ⟨.inl rfl,_,up mt 0 (some (setB L)),(Rc (Rt rfl) Rv),(aU rfl aM),?_⟩
 exact ⟨rfl,rfl⟩
def namL:List Nat:=[97,98,99,100,101,102,103,104,105,106,107,108,109,110,111,112,113,114,115,116,117,118,119,120,121,122,65,66,67,68,69,70,71,72,73,74,75,76,77,78,79,80,81,82,83,84,85,86,87,88,89,90,48,49,50,51,52,53,54,55,56,57,45,58]
def namS:ByteArray:=⟨#[97,98,99,100,101,102,103,104,105,106,107,108,109,110,111,112,113,114,115,116,117,118,119,120,121,122,65,66,67,68,69,70,71,72,73,74,75,76,77,78,79,80,81,82,83,84,85,86,87,88,89,90,48,49,50,51,52,53,54,55,56,57,45,58]⟩
theorem cut_at:∀ i:Fin 64,namS[i.val]?=some (UInt8.ofNat (namL.getD i.val 0))∧namL.getD i.val 0 < 128∧namL.take (i.val + 1)=namL.take i.val++[namL.getD i.val 0]:=by decide +kernel
set_option maxRecDepth 20000 in
set_option maxHeartbeats 1000000 in
theorem makeSet_any:AFn Tryz.prog 207 0 [.base (.string namS)] mt (.tup [.agg (setB namL.reverse),.base (.bool true)]) mt:=by
 refine AFn.eq Tryz.func207 rfl rfl (Nat.le_of_ble_eq_true rfl) ?_
 have hsz:namS.size=64:=rfl
 have hcl:namL.length=64:=rfl
 have hca:=cut_at
 generalize namS=S at *
 generalize hC:namL=C at *
 clear hC
 refine Wq<|qW 0 2 rfl<|qB rfl ty235<|qA rfl<|Nl<|Wq<|Wq<|qW 6 7 rfl<|qA rfl<|Nl ?_
 rw [show setB []=setB (C.take 0).reverse from rfl]
 refine Wb<|W.rename [(0,0)] 1 (T':=up (up (up mt 0 (some (.base (.string S)))) 2 (some (.own 0 0))) 4 (some (.base (.int .i64 (0:Int))))) (H':=up mt 0 (some (setB (C.take 0).reverse))) (by decide) ?_ ?_ ?_
 ·exact aU (lR rfl) (aU (lI rfl) (aU (lR rfl) aM))
 ·exact aU (kR rfl) aM
 refine W.loop_ind (α:=Nat) (fun x=>S.size - x) 1 (fun x=>up (up (up mt 0 (some (.base (.string S)))) 2 (some (.own 0 0))) 4 (some (.base (.int .i64 (x:Int))))) (fun x=>up mt 0 (some (setB (C.take x).reverse))) (fun x=>x≤S.size) 0 (show 0≤S.size from Nat.zero_le _) ?_
 rintro i hIA ihA
 try (dsimp only at hIA)
 try dsimp only
 by_cases hc:i < S.size
 ·have g1:decide ((i:Int) < (S.size:Int))=true:=decide_eq_true (by omega)
  obtain ⟨c1,c2,c3⟩:=hca ⟨i,by omega⟩
  dsimp only at c1 c2 c3
  generalize C.getD i 0=c at *
  have hcn:((UInt8.ofNat c).toNat:Int)=(c:Int):=by rw [UInt8.toNat_ofNat'];omega
  have g2:decide ((128:Int)≤(c:Int))=false:=decide_eq_false (by omega)
  have hsp:Sp (setB (C.take i).reverse) (0 + c * 1) [.base (.bool true)] (setB (c::(C.take i).reverse)):=by
   rw [← setB_add _ (show c < 256 by omega)]
   exact Sp.set _ _ _ (by rw [setB_len];omega)
  refine Wq<|Wq<|qW 11 15 rfl<|qM rfl<|qM rfl<|Od rfl rfl (LO.len_str rfl rfl ty9)<|qK rfl<|Nl<|Wt rfl ‹_›<|Wu<|Wq<|Wb<|Wq<|qW 19 23 rfl<|qM rfl<|qM rfl<|Od rfl rfl (LO.indexStr rfl rfl rfl rfl ty9 c1)<|qA rfl<|Nl ?_
  rw [hcn]
  refine Wq<|Wq<|qW 27 29 rfl<|qM rfl<|qGe rfl<|Nl<|Wo rfl ‹_›<|Wu<|qW 40 43 rfl<|qM rfl<|Od rfl rfl (Ir rfl rfl rfl rfl ty235 ty4 (by omega))<|qS rfl ty4 hsp rfl<|Nl<|qW 47 50 rfl<|qM rfl<|qZ rfl (iW _ (by omega))<|qA rfl<|Nl ?_
  rw [show setB (c::(C.take i).reverse)=setB (C.take (i + 1)).reverse from by rw [c3,List.reverse_append];rfl]
  refine WL.rename [(0,0)] 1 (by decide) ?_ ?_ (ihA (i + 1) (show S.size - (i + 1) < S.size - i from by omega) (show (i + 1)≤S.size from by omega))
  ·exact aU (lR rfl) (aU (lI rfl) (aU (lR rfl) aM))
  ·exact aU (kR rfl) aM
 ·have g1:decide ((i:Int) < (S.size:Int))=false:=decide_eq_false (by omega)
  have e:C.take i=C:=List.take_of_length_le (by omega)
  rw [e]
  refine Wq<|Wq<|qW 11 15 rfl<|qM rfl<|qM rfl<|Od rfl rfl (LO.len_str rfl rfl ty9)<|qK rfl<|Nl<|Wo rfl ‹_›<|Wx<|Wq<|qW 54 57 rfl<|qG rfl ty235 rfl (Tl rfl)<|qS rfl ty235 (Sl rfl) rfl<|qA rfl<|Nl<|Wz ⟨.inl rfl,_,mt,(Rc (Ra0 rfl rfl ty235 rfl (show Tk (setB C.reverse) 0 256 (setB C.reverse) from by have:=Tk.all (setB C.reverse);rwa [setB_len] at this)) (Rc (Rt rfl) Rv)),aM,?_⟩
  exact ⟨rfl,rfl⟩
theorem ext_size {s:ByteArray} {n:Nat} (h:n≤s.size):(s.extract 0 n).size=n:=by
 rw [ByteArray.size_extract];omega
theorem ext_at {s:ByteArray} {n i:Nat} (h:n≤s.size) (hi:i < n):(s.extract 0 n)[i]?=s[i]?:=by
 rw [getElem?_pos (s.extract 0 n) i (by rw [ext_size h];exact hi),getElem?_pos s i (by omega)]
 congr 1
 rw [ByteArray.getElem_extract]
 congr 1
 omega
set_option maxRecDepth 20000 in
set_option maxHeartbeats 1000000 in
theorem trimR_any (L:List Nat) (s:ByteArray) (hs:s.size≤1000) (hin:∀ i,i < s.size→∃ b,s[i]?=some b∧b.toNat∈L):AFn Tryz.prog 209 1 [.base (.string s),.own 0 0] (up mt 0 (some (setB L))) (.base (.string (s.extract 0 0))) (up mt 0 (some (setB L))):=by
 refine AFn.eq Tryz.func209 rfl rfl (Nat.le_of_ble_eq_true rfl)<|Wq<|qW 1 2 rfl<|qA rfl<|Nl<|Wq<|Wb<|W.rename [(0,0)] 1 (T':=up (up mt 0 (some (.base (.string s)))) 1 (some (.own 0 0))) (H':=up mt 0 (some (setB L))) (by decide) ?_ ?_ ?_
 ·exact aU (lI rfl) (aU (lR rfl) aM)
 ·exact aU (kR rfl) aM
 refine W.loop_ind (α:=Nat × ByteArray) (fun x=>x.1) 1 (fun x=>up (up mt 0 (some (.base (.string x.2)))) 1 (some (.own 0 0))) (fun x=>up mt 0 (some (setB L))) (fun x=>x.1≤s.size∧x.2=s.extract 0 x.1) (s.size,s) (show s.size≤s.size∧s=s.extract 0 s.size from ⟨Nat.le_refl _,by simp⟩) ?_
 rintro ⟨n,z⟩ hIA ihA
 try (dsimp only at hIA)
 try dsimp only
 obtain ⟨hIA,hzz⟩:=hIA
 have hz:=ext_size hIA
 by_cases hc:0 < n
 ·have g1:decide ((0:Int) < ((s.extract 0 n).size:Int))=true:=decide_eq_true (by omega)
  obtain ⟨b,hb,hm⟩:=hin (n - 1) (by omega)
  have hb2:(s.extract 0 n)[n - 1]?=some b:=by rw [ext_at hIA (by omega)];exact hb
  have hi:=inSet_any L b.toNat b.toNat_lt
  rw [decide_eq_true hm] at hi
  have hx:(s.extract 0 n).extract 0 (n - 1)=s.extract 0 (n - 1):=by rw [ByteArray.extract_extract];congr 1<;>omega
  have hk:((s.extract 0 n).size:Int) - 1=((n - 1:Nat):Int):=by omega
  rw [← hzz] at g1 hb2 hx hk hz
  refine Wq<|Wq<|qW 6 9 rfl<|qM rfl<|Od rfl rfl (LO.len_str rfl rfl ty9)<|qGt rfl<|Nl<|Wt rfl ‹_›<|Wu<|Wb<|Wq<|Wq<|qW 13 21 rfl<|qM rfl<|qM rfl<|qM rfl<|Od rfl rfl (LO.len_str rfl rfl ty9)<|Od rfl rfl (LO.sub_in rfl rfl rfl (iW _ (by omega)))<|Od rfl rfl (LO.indexStr rfl rfl rfl hk ty9 hb2)<|Od rfl rfl (C1 (fr:=[]) rfl rfl hi fok213 (.own rfl rfl (.cons rfl (.pure rfl) .nil)) rfl (setB_pure _) (setB_pure _) (setB_ne _) (by decide) rfl)<|qO rfl<|Nl<|Wo rfl rfl<|Wu<|qW 25 31 rfl<|qM rfl<|qM rfl<|Od rfl rfl (LO.len_str rfl rfl ty9)<|Od rfl rfl (LO.sub_in rfl rfl rfl (iW _ (by omega)))<|Od rfl rfl (LO.slice_str rfl rfl Bnd.no (Ba rfl hk) (by omega) (by omega) ty9)<|qA rfl<|Nl<|WL.rename [(0,0)] 1 (by decide) ?_ ?_ (ihA ((n - 1),(z.extract 0 (n - 1))) (show (n - 1) < n from by omega) (show (n - 1)≤s.size∧(z.extract 0 (n - 1))=s.extract 0 (n - 1) from ⟨by omega,hx⟩))
  ·exact aU (lI rfl) (aU (lR rfl) aM)
  ·exact aU (kR rfl) aM
 ·have g1:decide ((0:Int) < ((s.extract 0 n).size:Int))=false:=decide_eq_false (by omega)
  obtain rfl:n=0:=by omega
  rw [← hzz] at g1
  subst hzz
  refine Wq<|Wq<|qW 6 9 rfl<|qM rfl<|Od rfl rfl (LO.len_str rfl rfl ty9)<|qGt rfl<|Nl<|Wo rfl ‹_›<|Wx<|Wq<|qW 35 37 rfl<|qM rfl<|qA rfl<|Nl<|Wz ⟨.inl rfl,_,up mt 0 (some (setB L)),(Rc (Rt rfl) Rv),(aU rfl aM),?_⟩
  exact ⟨rfl,rfl⟩
set_option maxRecDepth 20000 in
theorem trimL_any (L:List Nat) (z:ByteArray) (hz:z.size=0):AFn Tryz.prog 208 1 [.base (.string z),.own 0 0] (up mt 0 (some (setB L))) (.base (.string z)) (up mt 0 (some (setB L))):=by
 refine AFn.eq Tryz.func208 rfl rfl (Nat.le_of_ble_eq_true rfl) ?_
 have g1:decide ((0:Int) < (z.size:Int))=false:=decide_eq_false (by omega)
 refine Wq<|qW 1 2 rfl<|qA rfl<|Nl<|Wq<|Wb<|W.rename [(0,0)] 1 (T':=up (up mt 0 (some (.base (.string z)))) 1 (some (.own 0 0))) (H':=up mt 0 (some (setB L))) (by decide) ?_ ?_ ?_
 ·exact aU (lI rfl) (aU (lR rfl) aM)
 ·exact aU (kR rfl) aM
 refine W.loop_ind (α:=Nat) (fun x=>x) 1 (fun x=>up (up mt 0 (some (.base (.string z)))) 1 (some (.own 0 0))) (fun x=>up mt 0 (some (setB L))) (fun x=>True) 0 (show True from trivial) ?_
 rintro n hIA ihA
 try (dsimp only at hIA)
 try dsimp only
 refine Wq<|Wq<|qW 6 9 rfl<|qM rfl<|Od rfl rfl (LO.len_str rfl rfl ty9)<|qGt rfl<|Nl<|Wo rfl ‹_›<|Wx<|Wq<|qW 29 31 rfl<|qM rfl<|qA rfl<|Nl<|Wz ⟨.inl rfl,_,up mt 0 (some (setB L)),(Rc (Rt rfl) Rv),(aU rfl aM),?_⟩
 exact ⟨rfl,rfl⟩
set_option maxRecDepth 20000 in
set_option maxHeartbeats 1000000 in
theorem trim_any (s:ByteArray) (h1:1≤s.size) (hs:s.size≤1000) (hin:∀ i,i < s.size→∃ b,s[i]?=some b∧b.toNat∈namL.reverse):AFn Tryz.prog 199 0 [.base (.string s),.base (.string namS)] mt (.base (.string (s.extract 0 0))) mt:=by
 refine AFn.eq Tryz.func199 rfl rfl (Nat.le_of_ble_eq_true rfl) ?_
 have k1:(s.toList == (⟨#[]⟩:ByteArray).toList)=false:=by
  have hne:s.toList≠(⟨#[]⟩:ByteArray).toList:=fun e=>by
   have:=congrArg List.length e
   rw [show (⟨#[]⟩:ByteArray).toList.length=0 from by decide +kernel] at this
   have h2:s.toList.length=s.size:=by rw [ByteArray.toList_eq,Array.length_toList];rfl
   omega
  simpa using hne
 have k2:(namS.toList == (⟨#[]⟩:ByteArray).toList)=false:=by decide +kernel
 have k3:namS.size=64:=by decide +kernel
 have hmk:=makeSet_any
 have hr:=trimR_any namL.reverse s hs hin
 have hl:=trimL_any namL.reverse (s.extract 0 0) (ext_size (Nat.zero_le _))
 generalize namL.reverse=L at *
 generalize namS=S at *
 have k4:((S.size:Int) == 1)=false:=by rw [k3];rfl
 refine Wq<|qW 0 1 rfl<|qA rfl<|Nl<|Wq<|Wq<|qW 5 11 rfl<|qM rfl<|Od rfl rfl (LO.eql_str rfl rfl rfl)<|qM rfl<|gM rfl ‹_›<|qU rfl ‹_› rfl (LO.eql_str rfl rfl rfl)<|qP rfl ‹_› rfl<|Nl<|Wo rfl ‹_›<|Wu<|Wq<|Wq<|qW 21 29 rfl<|qM rfl<|Od rfl rfl (LO.len_str rfl rfl ty9)<|qE rfl<|qM rfl<|qD rfl ‹_› rfl<|qD rfl ‹_› rfl<|qD rfl ‹_› rfl<|qP rfl ‹_› rfl<|Nl<|Wo rfl rfl<|Wu<|Wq<|Wq<|qW 45 53 rfl<|qM rfl<|qY rfl (hmk) fok207 rfl<|qM rfl<|qX rfl<|qX rfl<|qB rfl ty235<|On rfl rfl (Sr rfl rfl rfl rfl rfl ty235 (setB_len _) (by decide) (sp_all ((setB_len L).trans (setB_len []).symm)))<|qA rfl<|Nl<|Wq<|qW 57 58 rfl<|qM rfl<|Nl<|Wt rfl rfl<|Wq<|qW 62 66 rfl<|qM rfl<|Od rfl rfl (C1 (fr:=[]) rfl rfl hr fok209 (.cons rfl (.pure rfl) (.own rfl rfl .nil)) rfl (setB_pure _) (setB_pure _) (setB_ne _) (by decide) rfl)<|Od rfl rfl (C1 (fr:=[]) rfl rfl hl fok208 (.cons rfl (.pure rfl) (.own rfl rfl .nil)) rfl (setB_pure _) (setB_pure _) (setB_ne _) (by decide) rfl)<|qA rfl<|Nl<|Wz ⟨.inl rfl,_,mt,Rc (Rt rfl) (Rv),aM,?_⟩
 exact ⟨rfl,rfl⟩
theorem okC_mem:∀ c:Fin 256,((97≤c.val∧c.val≤122)∨(65≤c.val∧c.val≤90)∨(48≤c.val∧c.val≤57)∨c.val=45∨c.val=58)→c.val∈namL.reverse:=by decide +kernel
theorem NameOk.inS {s:ByteArray} (h:NameOk s):∀ i,i < s.size→∃ b,s[i]?=some b∧b.toNat∈namL.reverse:=fun i hi=>by
 have e:s[i]?=some s[i]:=getElem?_pos s i hi
 have hc:=h.ch i _ e
 refine ⟨_,e,okC_mem ⟨s[i].toNat,s[i].toNat_lt⟩ ?_⟩
 unfold okC at hc
 dsimp only
 omega
theorem named_any (s:ByteArray) (h:NameOk s):AFn Tryz.prog 184 0 [.base (.string s)] mt (.base (.bool true)) mt:=by
 refine AFn.eq Tryz.func184 rfl rfl (Nat.le_of_ble_eq_true rfl) ?_
 have ht:=trim_any s h.lo (by have:=h.hi;omega) h.inS
 have hw:=mwithin_yes (n:=(s.size:Int)) (l:=1) (h:=32) (by have:=h.lo;omega) (by have:=h.hi;omega)
 have k1:((s.extract 0 0).toList == (⟨#[]⟩:ByteArray).toList)=true:=by
  have e:s.extract 0 0=⟨#[]⟩:=by
   apply ByteArray.ext
   apply Array.eq_empty_of_size_eq_zero
   exact ext_size (Nat.zero_le _)
  rw [e]
  decide +kernel
 generalize s.extract 0 0=z at *
 refine Wq<|qW 0 1 rfl<|qA rfl<|Nl<|Wq<|qW 5 8 rfl<|qM rfl<|qY rfl (ht) fok199 rfl<|qA rfl<|Nl<|Wq<|qW 12 20 rfl<|qM rfl<|Od rfl rfl (LO.len_str rfl rfl ty9)<|qY rfl (hw) fok182 rfl<|qM rfl<|gM rfl rfl<|qU rfl rfl rfl (LO.eql_str rfl rfl rfl)<|qT rfl rfl rfl<|qA rfl<|Nl<|Wz ⟨.inl rfl,_,mt,Rc (Rt rfl) (Rv),aM,?_⟩
 exact ⟨by rw [k1];rfl,rfl⟩
set_option maxHeartbeats 2000000 in
theorem alone_any (d:Db) (hd:DbOk d) (h0:1≤(d.servers++d.members).length):AFn Tryz.prog 159 0 [.agg (dbC d)] mt (.base (.bool true)) mt:=by
 refine AFn.eq Tryz.func159 rfl rfl (Nat.le_of_ble_eq_true rfl) ?_
 have h4:=hd.ns
 have h32:=hd.nm
 have hmem:=hd.mem
 have e4:=hd.l4
 have e6:=hd.l6
 have hall:=allM_any d h0 (by omega) (by omega)
 obtain ⟨A,hA⟩:∃ A,A=d.servers++d.members:=⟨_,rfl⟩
 rw [← hA] at hall hmem
 have hAl:A.length≤2000:=by rw [hA,List.length_append];omega
 clear hd hA h0
 obtain ⟨l4,l6,sv,mb⟩:=d
 dsimp only at e4 e6
 subst e4 e6
 have v4:=validE4
 have v6:=validE6
 have w4:=mwithin_yes (n:=24) (l:=8) (h:=30) (by decide) (by decide)
 have w6:=mwithin_yes (n:=64) (l:=32) (h:=64) (by decide) (by decide)
 refine Wq<|qW 0 2 rfl<|qC rfl<|qA rfl<|Nl<|Wq<|Wq<|qW 6 43 rfl<|qF rfl ty105 rfl<|qG rfl ty56 rfl (Tl rfl)<|qY rfl (v4) fok183 rfl<|qO rfl<|qM rfl<|gF rfl rfl ty105 rfl<|gF rfl rfl ty56 rfl<|gF rfl rfl ty54 rfl<|gL rfl rfl ty4 rfl<|qP rfl rfl rfl<|qM rfl<|gF rfl rfl ty105 rfl<|gF rfl rfl ty56 rfl<|gL rfl rfl ty3 rfl<|gY rfl rfl (w4) fok182 rfl<|gO rfl rfl<|qP rfl rfl rfl<|qM rfl<|gF rfl rfl ty105 rfl<|gG rfl rfl ty56 rfl (Tl rfl)<|gY rfl rfl (v6) fok183 rfl<|gO rfl rfl<|qP rfl rfl rfl<|qM rfl<|gF rfl rfl ty105 rfl<|gF rfl rfl ty56 rfl<|gF rfl rfl ty54 rfl<|gL rfl rfl ty4 rfl<|gO rfl rfl<|qP rfl rfl rfl<|qM rfl<|gF rfl rfl ty105 rfl<|gF rfl rfl ty56 rfl<|gL rfl rfl ty3 rfl<|gY rfl rfl (w6) fok182 rfl<|gO rfl rfl<|qP rfl rfl rfl<|Nl<|Wo rfl rfl<|Wu<|Wq<|Wq<|qW 52 56 rfl<|qG rfl ty105 rfl (Tl rfl)<|qY rfl (hall) fok167 rfl<|qH rfl ty103<|qM rfl<|Nl<|Wb<|W.rename [] 0 (T':=up (up (up mt 43 (some (.isl (memsC A) A.length))) 44 (some (.base (.int .i64 (A.length:Int))))) 45 (some (.base (.int .i64 (0:Int))))) (H':=mt) (by decide) ?_ ?_ ?_
 ·exact aU (lR rfl) (aU (lR rfl) (aU (lR rfl) aM))
 ·exact aM
 refine W.loop_ind (α:=Nat) (fun x=>A.length - x) 0 (fun x=>up (up (up mt 43 (some (.isl (memsC A) A.length))) 44 (some (.base (.int .i64 (A.length:Int))))) 45 (some (.base (.int .i64 (x:Int))))) (fun x=>mt) (fun x=>x≤A.length) 0 (show 0≤A.length from Nat.zero_le _) ?_
 rintro i hIA ihA
 try (dsimp only at hIA)
 try dsimp only
 by_cases hc:i < A.length
 ·have g1:decide ((i:Int) < (A.length:Int))=true:=decide_eq_true (by omega)
  have hm:=hmem _ (List.getElem_mem hc)
  refine Wq<|qW 60 61 rfl<|qK rfl<|Nl<|Wq<|Wt rfl ‹_›<|Wu<|Wq<|Wb<|Wq<|qW 65 69 rfl<|qJ rfl rfl ty103 ty150 (by omega)<|Od rfl rfl (Lg rfl rfl ty150 rfl (mems_tk hc))<|qB rfl ty150<|qS rfl ty150 (Sl rfl) rfl<|Nl ?_
  generalize A[i]=m at *
  have hnp:=hm.np
  have w1:=mwithin_yes hm.asn.1 hm.asn.2
  have w2:=mwithin_yes hm.max4.1 hm.max4.2
  have w3:=mwithin_yes hm.max6.1 hm.max6.2
  have hcf:=containsF_any m.ports (by omega) hm.ports
  have hna:=named_any _ hm.name
  obtain ⟨asn,name,set,x4,x6,ps⟩:=m
  rcases hm.set with e|e|e
  all_goals
   dsimp only at e w1 w2 w3 hcf hna
   subst e
  ·
   have k1:(!(emptyS.toList == (⟨#[]⟩:ByteArray).toList))=false:=by decide +kernel
   have k2:(emptyS.toList == (⟨#[45]⟩:ByteArray).toList)=false:=by decide +kernel
   refine Wq<|qW 73 116 rfl<|qF rfl ty150 rfl<|qL rfl ty3 rfl<|qY rfl (w1) fok182 rfl<|qO rfl<|qM rfl<|gF rfl rfl ty150 rfl<|gL rfl rfl ty9 rfl<|gY rfl rfl (hna) fok184 rfl<|gO rfl rfl<|qP rfl rfl rfl<|qM rfl<|gF rfl rfl ty150 rfl<|gL rfl rfl ty9 rfl<|qU rfl rfl rfl (LO.neq_str rfl rfl rfl)<|gM rfl rfl<|qD rfl ‹_› rfl<|qD rfl ‹_› rfl<|qD rfl ‹_› rfl<|qD rfl ‹_› rfl<|qU rfl rfl rfl (Pf0 rfl rfl ‹_› rfl)<|qP rfl rfl rfl<|qM rfl<|gF rfl rfl ty150 rfl<|gL rfl rfl ty9 rfl<|qU rfl rfl rfl (LO.eql_str rfl rfl rfl)<|qP rfl rfl rfl<|qM rfl<|gF rfl ‹_› ty150 rfl<|gL rfl ‹_› ty3 rfl<|gY rfl ‹_› (w2) fok182 rfl<|gO rfl ‹_›<|qP rfl ‹_› rfl<|qM rfl<|gF rfl rfl ty150 rfl<|gL rfl rfl ty3 rfl<|gY rfl rfl (w3) fok182 rfl<|gO rfl rfl<|qP rfl rfl rfl<|qM rfl<|gF rfl rfl ty150 rfl<|gL rfl rfl ty148 rfl<|gY rfl rfl (hcf) fok185 rfl<|qP rfl rfl rfl<|Nl<|Wo rfl rfl<|Wu<|qW 125 127 rfl<|qZ rfl (iW _ (by omega))<|qM rfl<|Nl<|WL.rename [] 0 (by decide) ?_ ?_ (ihA (i + 1) (show A.length - (i + 1) < A.length - i from by omega) (show (i + 1)≤A.length from by omega))
   ·exact aU (lR rfl) (aU (lR rfl) (aU (lR rfl) aM))
   ·exact aM
  ·
   have hset:=named_any _ asA_ok
   have k1:(!(asA.toList == (⟨#[]⟩:ByteArray).toList))=true:=by decide +kernel
   have k2:(asA.toList == (⟨#[45]⟩:ByteArray).toList)=false:=by decide +kernel
   refine Wq<|qW 73 116 rfl<|qF rfl ty150 rfl<|qL rfl ty3 rfl<|qY rfl (w1) fok182 rfl<|qO rfl<|qM rfl<|gF rfl rfl ty150 rfl<|gL rfl rfl ty9 rfl<|gY rfl rfl (hna) fok184 rfl<|gO rfl rfl<|qP rfl rfl rfl<|qM rfl<|gF rfl rfl ty150 rfl<|gL rfl rfl ty9 rfl<|qU rfl rfl rfl (LO.neq_str rfl rfl rfl)<|gM rfl rfl<|gF rfl ‹_› ty150 rfl<|gL rfl ‹_› ty9 rfl<|gY rfl ‹_› (hset) fok184 rfl<|gO rfl ‹_›<|qU rfl rfl rfl (Pt rfl rfl ‹_› rfl)<|qP rfl rfl rfl<|qM rfl<|gF rfl rfl ty150 rfl<|gL rfl rfl ty9 rfl<|qU rfl rfl rfl (LO.eql_str rfl rfl rfl)<|qP rfl rfl rfl<|qM rfl<|gF rfl ‹_› ty150 rfl<|gL rfl ‹_› ty3 rfl<|gY rfl ‹_› (w2) fok182 rfl<|gO rfl ‹_›<|qP rfl ‹_› rfl<|qM rfl<|gF rfl rfl ty150 rfl<|gL rfl rfl ty3 rfl<|gY rfl rfl (w3) fok182 rfl<|gO rfl rfl<|qP rfl rfl rfl<|qM rfl<|gF rfl rfl ty150 rfl<|gL rfl rfl ty148 rfl<|gY rfl rfl (hcf) fok185 rfl<|qP rfl rfl rfl<|Nl<|Wo rfl rfl<|Wu<|qW 125 127 rfl<|qZ rfl (iW _ (by omega))<|qM rfl<|Nl<|WL.rename [] 0 (by decide) ?_ ?_ (ihA (i + 1) (show A.length - (i + 1) < A.length - i from by omega) (show (i + 1)≤A.length from by omega))
   ·exact aU (lR rfl) (aU (lR rfl) (aU (lR rfl) aM))
   ·exact aM
  ·
   have hset:=named_any _ asB_ok
   have k1:(!(asB.toList == (⟨#[]⟩:ByteArray).toList))=true:=by decide +kernel
   have k2:(asB.toList == (⟨#[45]⟩:ByteArray).toList)=false:=by decide +kernel
   refine Wq<|qW 73 116 rfl<|qF rfl ty150 rfl<|qL rfl ty3 rfl<|qY rfl (w1) fok182 rfl<|qO rfl<|qM rfl<|gF rfl rfl ty150 rfl<|gL rfl rfl ty9 rfl<|gY rfl rfl (hna) fok184 rfl<|gO rfl rfl<|qP rfl rfl rfl<|qM rfl<|gF rfl rfl ty150 rfl<|gL rfl rfl ty9 rfl<|qU rfl rfl rfl (LO.neq_str rfl rfl rfl)<|gM rfl rfl<|gF rfl ‹_› ty150 rfl<|gL rfl ‹_› ty9 rfl<|gY rfl ‹_› (hset) fok184 rfl<|gO rfl ‹_›<|qU rfl rfl rfl (Pt rfl rfl ‹_› rfl)<|qP rfl rfl rfl<|qM rfl<|gF rfl rfl ty150 rfl<|gL rfl rfl ty9 rfl<|qU rfl rfl rfl (LO.eql_str rfl rfl rfl)<|qP rfl rfl rfl<|qM rfl<|gF rfl ‹_› ty150 rfl<|gL rfl ‹_› ty3 rfl<|gY rfl ‹_› (w2) fok182 rfl<|gO rfl ‹_›<|qP rfl ‹_› rfl<|qM rfl<|gF rfl rfl ty150 rfl<|gL rfl rfl ty3 rfl<|gY rfl rfl (w3) fok182 rfl<|gO rfl rfl<|qP rfl rfl rfl<|qM rfl<|gF rfl rfl ty150 rfl<|gL rfl rfl ty148 rfl<|gY rfl rfl (hcf) fok185 rfl<|qP rfl rfl rfl<|Nl<|Wo rfl rfl<|Wu<|qW 125 127 rfl<|qZ rfl (iW _ (by omega))<|qM rfl<|Nl<|WL.rename [] 0 (by decide) ?_ ?_ (ihA (i + 1) (show A.length - (i + 1) < A.length - i from by omega) (show (i + 1)≤A.length from by omega))
   ·exact aU (lR rfl) (aU (lR rfl) (aU (lR rfl) aM))
   ·exact aM
 ·have g1:decide ((i:Int) < (A.length:Int))=false:=decide_eq_false (by omega)
  refine Wq<|qW 60 61 rfl<|qK rfl<|Nl<|Wq<|Wo rfl ‹_›<|Wx<|Wq<|qW 131 132 rfl<|qA rfl<|Nl<|Wz ⟨.inl rfl,_,mt,Rc (Rt rfl) (Rv),aM,?_⟩
  exact ⟨rfl,rfl⟩
theorem oneA_any (a:Ad):AFn Tryz.prog 122 0 [.agg (adC a)] mt (.isl (adsC (ad1 a)) (ad1 a).length) mt:=by
 refine AFn.eq Tryz.func122 rfl rfl (Nat.le_of_ble_eq_true rfl) ?_
 by_cases hz:zeroA a=true
 ·have h1:ad1 a=[]:=by unfold ad1;rw [if_pos hz]
  rw [h1]
  have he:eqA a ⟨false,0,0⟩=true:=hz
  refine Wq<|qW 0 2 rfl<|qC rfl<|qA rfl<|Nl<|Wq<|Wq<|qW 6 9 rfl<|qG rfl ty54 rfl (Tl rfl)<|Od rfl rfl (Bs rfl ty54 .nil)<|Od rfl rfl (LO.eql_ad_b a ⟨false,0,0⟩ he rfl rfl rfl)<|Nl<|Wt rfl rfl<|Wq<|qW 13 14 rfl<|qA rfl<|Nl<|W.nilt (t:=2) rfl<|Wz ⟨.inl rfl,_,mt,Rc (Rt rfl) (Rv),aM,?_⟩
  exact ⟨rfl,rfl⟩
 ·have h1:ad1 a=[a]:=by unfold ad1;rw [if_neg hz]
  rw [h1]
  have he:eqA a ⟨false,0,0⟩=false:=by simpa [zeroA] using hz
  refine Wq<|qW 0 2 rfl<|qC rfl<|qA rfl<|Nl<|Wq<|Wq<|qW 6 9 rfl<|qG rfl ty54 rfl (Tl rfl)<|Od rfl rfl (Bs rfl ty54 .nil)<|Od rfl rfl (LO.eql_ad_b a ⟨false,0,0⟩ he rfl rfl rfl)<|Nl<|Wo rfl rfl<|Wu<|Wq<|qW 18 21 rfl<|qG rfl ty54 rfl (Tl rfl)<|Od rfl rfl (LO.buildSlice rfl ty37 ty54 (by decide) (by decide) (.cons rfl rfl rfl rfl (Sl rfl) .nil))<|qA rfl<|Nl<|Wy (t:=2) rfl rfl (Tl rfl) rfl<|Wz ⟨.inl rfl,_,mt,Rc (Rt rfl) (Rv),aM,?_⟩
  exact ⟨rfl,rfl⟩
theorem onceI_any (S:List Value) (x:Int) (hn:Value.int .i64 x ∉ S) (hkd:kdOf Tryz.prog 3 (.int .i64 x)):AFn Tryz.prog 189 1 [.mref 0,.base (.int .i64 x)] (up mt 0 (some [.mp (kdOf Tryz.prog 3) (setV S)])) (.base (.bool true)) (up mt 0 (some [.mp (kdOf Tryz.prog 3) (setV (S++[.int .i64 x]))])):=by
 refine AFn.eq Tryz.func189 rfl rfl (Nat.le_of_ble_eq_true rfl) ?_
 have hmi:=mk_int (P:=Tryz.prog) (lay_int ty3)
 have hlk:(setV S (.int .i64 x)).getD (.bool false)=.bool false:=setV_out hn
 refine Wq<|qW 1 2 rfl<|qA rfl<|Nl<|Wq<|qW 6 10 rfl<|qM rfl<|qM rfl<|Od rfl rfl (LO.lookup rfl rfl rfl (KV.base _) rfl ty208 hmi hkd (zero_of (by kernel_rfl)) hlk)<|qA rfl<|Nl<|Wq<|qW 14 17 rfl<|qM rfl<|qM rfl<|On rfl rfl (LO.mapUpdate rfl rfl rfl (KV.base _) rfl rfl ty208 hmi hkd (m':=setV (S++[.int .i64 x])) (setV_at _ _) (setV_else _ _))<|Nl<|Wq<|qW 21 24 rfl<|qM rfl<|qO rfl<|qA rfl<|Nl<|Wz ⟨.inl rfl,_,up mt 0 (some [.mp (kdOf Tryz.prog 3) (setV (S++[.int .i64 x]))]),(Rc (Rt rfl) Rv),(aU rfl aM),?_⟩
 exact ⟨rfl,rfl⟩
theorem onceS_any (S:List Value) (x:ByteArray) (hn:Value.string x ∉ S) (hkd:kdOf Tryz.prog 9 (Value.string x)):AFn Tryz.prog 190 1 [.mref 0,.base (.string x)] (up mt 0 (some [.mp (kdOf Tryz.prog 9) (setV S)])) (.base (.bool true)) (up mt 0 (some [.mp (kdOf Tryz.prog 9) (setV (S++[Value.string x]))])):=by
 refine AFn.eq Tryz.func190 rfl rfl (Nat.le_of_ble_eq_true rfl) ?_
 have hms:=mk_str (P:=Tryz.prog) (lay_str ty9)
 have hlk:(setV S (Value.string x)).getD (.bool false)=.bool false:=setV_out hn
 refine Wq<|qW 1 2 rfl<|qA rfl<|Nl<|Wq<|qW 6 10 rfl<|qM rfl<|qM rfl<|Od rfl rfl (LO.lookup rfl rfl rfl (KV.base _) rfl ty209 hms hkd (zero_of (by kernel_rfl)) hlk)<|qA rfl<|Nl<|Wq<|qW 14 17 rfl<|qM rfl<|qM rfl<|On rfl rfl (LO.mapUpdate rfl rfl rfl (KV.base _) rfl rfl ty209 hms hkd (m':=setV (S++[Value.string x])) (setV_at _ _) (setV_else _ _))<|Nl<|Wq<|qW 21 24 rfl<|qM rfl<|qO rfl<|qA rfl<|Nl<|Wz ⟨.inl rfl,_,up mt 0 (some [.mp (kdOf Tryz.prog 9) (setV (S++[Value.string x]))]),(Rc (Rt rfl) Rv),(aU rfl aM),?_⟩
 exact ⟨rfl,rfl⟩
theorem onceA_any (S:List Value) (a:Ad) (hn:adV a ∉ S) (hkd:kdOf Tryz.prog 54 (adV a)):AFn Tryz.prog 192 1 [.mref 0,.agg (adC a)] (up mt 0 (some [.mp (kdOf Tryz.prog 54) (setV S)])) (.base (.bool true)) (up mt 0 (some [.mp (kdOf Tryz.prog 54) (setV (S++[adV a]))])):=by
 refine AFn.eq Tryz.func192 rfl rfl (Nat.le_of_ble_eq_true rfl) ?_
 have hlk:(setV S (adV a)).getD (.bool false)=.bool false:=setV_out hn
 refine Wq<|qW 1 3 rfl<|qC rfl<|qA rfl<|Nl<|Wq<|qW 7 11 rfl<|qM rfl<|qG rfl ty54 rfl (Tl rfl)<|Od rfl rfl (LO.lookup rfl rfl rfl (kv_ad a) rfl ty211 mk_ad hkd (zero_of (by kernel_rfl)) hlk)<|qA rfl<|Nl<|Wq<|qW 15 18 rfl<|qM rfl<|qG rfl ty54 rfl (Tl rfl)<|On rfl rfl (LO.mapUpdate rfl rfl rfl (kv_ad a) rfl rfl ty211 mk_ad hkd (m':=setV (S++[adV a])) (setV_at _ _) (setV_else _ _))<|Nl<|Wq<|qW 22 25 rfl<|qM rfl<|qO rfl<|qA rfl<|Nl<|Wz ⟨.inl rfl,_,up mt 0 (some [.mp (kdOf Tryz.prog 54) (setV (S++[adV a]))]),(Rc (Rt rfl) Rv),(aU rfl aM),?_⟩
 exact ⟨rfl,rfl⟩
theorem onceM_any (S:List Value) (m:List Int) (h6:m.length=6) (hn:macV m ∉ S) (hkd:kdOf Tryz.prog 23 (macV m)):AFn Tryz.prog 191 1 [.mref 0,.agg (bytesC m)] (up mt 0 (some [.mp (kdOf Tryz.prog 23) (setV S)])) (.base (.bool true)) (up mt 0 (some [.mp (kdOf Tryz.prog 23) (setV (S++[macV m]))])):=by
 refine AFn.eq Tryz.func191 rfl rfl (Nat.le_of_ble_eq_true rfl) ?_
 obtain ⟨m0,m1,m2,m3,m4,m5,rfl⟩:=six_of h6
 have hlk:(setV S (macV [m0,m1,m2,m3,m4,m5])).getD (.bool false)=.bool false:=setV_out hn
 refine Wq<|qW 1 3 rfl<|qC rfl<|qA rfl<|Nl<|Wq<|qW 7 11 rfl<|qM rfl<|qG rfl ty23 rfl (Tl rfl)<|Od rfl rfl (LO.lookup rfl rfl rfl (kv_mac [m0,m1,m2,m3,m4,m5]) rfl ty210 mk_mac hkd (zero_of (by kernel_rfl)) hlk)<|qA rfl<|Nl<|Wq<|qW 15 18 rfl<|qM rfl<|qG rfl ty23 rfl (Tl rfl)<|On rfl rfl (LO.mapUpdate rfl rfl rfl (kv_mac [m0,m1,m2,m3,m4,m5]) rfl rfl ty210 mk_mac hkd (m':=setV (S++[macV [m0,m1,m2,m3,m4,m5]])) (setV_at _ _) (setV_else _ _))<|Nl<|Wq<|qW 22 25 rfl<|qM rfl<|qO rfl<|qA rfl<|Nl<|Wz ⟨.inl rfl,_,up mt 0 (some [.mp (kdOf Tryz.prog 23) (setV (S++[macV [m0,m1,m2,m3,m4,m5]]))]),(Rc (Rt rfl) Rv),(aU rfl aM),?_⟩
 exact ⟨rfl,rfl⟩
end Go.Proofs.YtlcndmciognneaaGreatDoor
