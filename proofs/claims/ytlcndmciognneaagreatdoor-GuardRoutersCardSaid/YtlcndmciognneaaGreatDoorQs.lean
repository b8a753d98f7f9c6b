/-
  Reserved stations, the blocks of the exchange, addresses in a list. What may come from a port: plain frames, address resolution. What may come from a port: neighbour discovery. What may come from a port: neighbour discovery by the document, and the check as a whole by both. The check of a frame from a port, by both. Fabrics in plain words: what is alive, what works, distances by rounds and by a queue. Fabrics: what is alive, what works. Fabrics: which links work, by both texts. Distances: both texts. Flows in plain words: what is left of the capacities, ways along it, and the sets that separate two switches. What is sent along one shortest way. Distances: both texts. Parts: both texts; comparing lists of numbers. The fabric that is made from a list of numbers: a valid one, whatever the numbers are. Failed, cuts of both texts, comparing lists of numbers. Which fabrics are valid: both texts. The greatest amount between two switches: both texts. Plain laws of distances, parts and flows (no program in sight). The example of chapter 13; comparing lists of numbers. FabricWays and FabricFlows return true. FabricSteps returns true. The way between two switches: both texts. The way between two switches: the document's text. The hash of two addresses; the example of chapter 14. FabricFails returns true. Chapter 14: the document's hash, addresses of stations, the example, ways by the program and by the document. The rule of a port, budgets, and what becomes of a frame; by the program and by the document. The setting of chapter 14; deliveries that are the same; whom a frame reaches is there. What a frame that passes is. A message is read back from its packet: plain words, no program. A message that was forwarded, or whose data or address was changed in one bit, is refused: plain words, no program.
-/
import Derived.Test.YtlcndmciognneaaGreatDoorWa
import Derived.Test.YtlcndmciognneaaGreatDoorMab
import Derived.Test.YtlcndmciognneaaGreatDoorQa
import Derived.Test.YtlcndmciognneaaGreatDoorJr
import Derived.Test.YtlcndmciognneaaGreatDoorQj
import Derived.Test.YtlcndmciognneaaGreatDoorCz
namespace Go.Proofs.YtlcndmciognneaaGreatDoor
open Go.RowKit
theorem LO.eql_mac_b {o:Oper} {E:Operand→Option AV} {H:Hp} {f:Nat} {ty:TypeId} {x y:Operand} {r:Bool} (a b:List Int) (h:decide (a=b)=r) (ha:a.length=6) (hb:b.length=6) (ho:o.op=.binOp .eql 23 x y ty) (hx:E x=some (.agg (bytesC a))) (hy:E y=some (.agg (bytesC b))):LO Tryz.prog o E H f [] [] (.base (.bool r)) H:=h ▸ LO.eql_mac a b ha hb ho hx hy
theorem LO.neq_mac_b {o:Oper} {E:Operand→Option AV} {H:Hp} {f:Nat} {ty:TypeId} {x y:Operand} {r:Bool} (a b:List Int) (h:decide (a=b)=r) (ha:a.length=6) (hb:b.length=6) (ho:o.op=.binOp .neq 23 x y ty) (hx:E x=some (.agg (bytesC a))) (hy:E y=some (.agg (bytesC b))):LO Tryz.prog o E H f [] [] (.base (.bool (!r))) H :=
 h ▸ LO.eq_bases true (a.map (Value.int .u8)) (b.map (Value.int .u8)) ho hx hy (bytesC_bases a) (bytesC_bases b) (guard_run x y true (by kernel_rfl)) (eqMac_in 9998 ha hb)
def resM (m:List Int):Bool:=decide (m.take 5=[1,128,194,0,0]) && decide (gB m 5≤15)
theorem resE_any (m:List Int) (h6:m.length=6):AFn Tryz.prog 62 0 [.agg (bytesC m)] mt (.base (.bool (resM m))) mt:=by
 refine AFn.eq Tryz.func62 rfl rfl (Nat.le_of_ble_eq_true rfl) ?_
 obtain ⟨m0,m1,m2,m3,m4,m5,rfl⟩:=six_of h6
 obtain ⟨b,hb⟩:∃ b,decide (([m0,m1,m2,m3,m4,0]:List Int)=[1,128,194,0,0,0])=b:=⟨_,rfl⟩
 have hres:resM [m0,m1,m2,m3,m4,m5]=(b && decide (m5≤15)):=by
  rw [← hb]
  unfold resM
  congr 1
  simp
 rw [hres]
 refine Wq<|qW 0 2 rfl<|qC rfl<|qA rfl<|Nl<|Wq<|qW 6 9 rfl<|Od rfl rfl (Ir rfl rfl rfl rfl ty23 ty5 (by decide))<|qL rfl ty5 rfl<|qA rfl<|Nl<|Wq<|qW 13 15 rfl<|Od rfl rfl (Ir rfl rfl rfl rfl ty23 ty5 (by decide))<|qS rfl ty5 (Sl rfl) rfl<|Nl ?_
 cases b
 ·
  refine Wq<|qW 19 27 rfl<|qG rfl ty23 rfl (Tl rfl)<|Od rfl rfl (LO.build_ar rfl ty23 ty5 (.cons rfl rfl rfl rfl (Sl rfl) (.cons rfl rfl rfl rfl (Sl rfl) (.cons rfl rfl rfl rfl (Sl rfl) .nil))))<|Od rfl rfl (LO.eql_mac_b [m0,m1,m2,m3,m4,0] [1,128,194,0,0,0] hb rfl rfl rfl rfl rfl)<|qM rfl<|qD rfl rfl rfl<|qD rfl rfl rfl<|qP rfl rfl rfl<|qA rfl<|Nl<|Wz ⟨.inl rfl,_,mt,Rc (Rt0 rfl) (Rv),aM,?_⟩
  exact ⟨rfl,rfl⟩
 ·
  refine Wq<|qW 19 27 rfl<|qG rfl ty23 rfl (Tl rfl)<|Od rfl rfl (LO.build_ar rfl ty23 ty5 (.cons rfl rfl rfl rfl (Sl rfl) (.cons rfl rfl rfl rfl (Sl rfl) (.cons rfl rfl rfl rfl (Sl rfl) .nil))))<|Od rfl rfl (LO.eql_mac_b [m0,m1,m2,m3,m4,0] [1,128,194,0,0,0] hb rfl rfl rfl rfl rfl)<|qM rfl<|gM rfl rfl<|gLe rfl rfl<|qT rfl rfl rfl<|qA rfl<|Nl<|Wz ⟨.inl rfl,_,mt,Rc (Rt0 rfl) (Rv),aM,?_⟩
  exact ⟨by rw [Bool.true_and];rfl,rfl⟩
def hasA (l:List Ad) (a:Ad):Bool:=l.any fun x=>eqA x a
theorem eqA_comm (a b:Ad):eqA a b=eqA b a:=by
 rw [Bool.eq_iff_iff,eqA_iff,eqA_iff]
 exact ⟨Eq.symm,Eq.symm⟩
theorem any_take {α:Type} {l:List α} {i:Nat} (h:i < l.length) (f:α→Bool):(l.take (i + 1)).any f=((l.take i).any f || f l[i]):=by
 rw [List.take_succ_eq_append_getElem h,List.any_append];simp
theorem hasA_at {l:List Ad} {a:Ad} {i:Nat} (h:i < l.length) (e:eqA l[i] a=true):hasA l a=true:=List.any_eq_true.2 ⟨_,List.getElem_mem h,e⟩
theorem hasX_any (l:List Ad) (a:Ad) (hl:l.length≤1000):AFn Tryz.prog 124 0 [.isl (adsC l) l.length,.agg (adC a)] mt (.base (.bool (hasA l a))) mt:=by
 refine AFn.eq Tryz.func124 rfl rfl (Nat.le_of_ble_eq_true rfl)<|Wq<|qW 0 2 rfl<|qC rfl<|qA rfl<|Nl<|Wq<|Wq<|qW 6 9 rfl<|qM rfl<|qH rfl ty37<|qM rfl<|Nl<|Wb<|W.loop_keep (α:=Nat) (fun x=>l.length - x) 1 (fun x=>[(3,.own 0 0),(9,.base (.int .i64 (x:Int)))]) (fun x=>up mt 0 (some (adC a))) (fun x=>x≤l.length∧(l.take x).any (fun x=>eqA x a)=false) 0 [(0,0)] (.cons (t:=7) rfl (by exact .inl rfl) (.cons (t:=8) rfl (by exact .inl rfl) .nil)) (show 0≤l.length∧(l.take 0).any (fun x=>eqA x a)=false from ⟨Nat.zero_le _,rfl⟩) (by decide) ?_ ?_ ?_
 ·exact lC (lI rfl) (lC (lR rfl) lN)
 ·exact aU (kR rfl) aM
 rintro i hIA ihA
 try (dsimp only at hIA)
 try dsimp only [baseT,List.cons_append,List.nil_append]
 obtain ⟨hi,hno⟩:=hIA
 by_cases hc:i < l.length
 ·have g1:decide ((i:Int) < (l.length:Int))=true:=decide_eq_true (by omega)
  have hxt:=ads_tk hc
  have htm:=any_take hc (fun x=>eqA x a)
  have hat:=hasA_at (a:=a) hc
  generalize l[i]=x at *
  obtain ⟨x6,xh,xl⟩:=x
  refine Wq<|qW 13 14 rfl<|qK rfl<|Nl<|Wq<|Wt rfl ‹_›<|Wu<|Wq<|Wb<|Wq<|qW 18 22 rfl<|qJ rfl rfl ty37 ty54 (by omega)<|Od rfl rfl (Lg rfl rfl ty54 rfl hxt)<|qB rfl ty54<|qS rfl ty54 (Sl rfl) rfl<|Nl ?_
  cases he:eqA ⟨x6,xh,xl⟩ a
  ·
   refine Wq<|qW 26 29 rfl<|qG rfl ty54 rfl (Tl rfl)<|qG rfl ty54 rfl (Tl rfl)<|Od rfl rfl (LO.eql_ad ⟨x6,xh,xl⟩ a rfl rfl rfl)<|Nl<|Wo rfl ‹_›<|Wu<|qW 38 40 rfl<|qZ rfl (iW _ (by omega))<|qM rfl<|Nl<|WL.renameL [(0,0)] 1 (by decide) ?_ ?_ (ihA (i + 1) (show l.length - (i + 1) < l.length - i from by omega) (show (i + 1)≤l.length∧(l.take (i + 1)).any (fun x=>eqA x a)=false from ⟨by omega,by rw [htm,hno,he];rfl⟩))
   ·exact lC (lI rfl) (lC (lR rfl) (lC (lR rfl) (lC (lR rfl) lN)))
   ·exact aU (kR rfl) aM
  ·
   have h1:=hat he
   refine Wq<|qW 26 29 rfl<|qG rfl ty54 rfl (Tl rfl)<|qG rfl ty54 rfl (Tl rfl)<|Od rfl rfl (LO.eql_ad ⟨x6,xh,xl⟩ a rfl rfl rfl)<|Nl<|Wt rfl ‹_›<|Wq<|qW 33 34 rfl<|qA rfl<|Nl<|Wz ⟨.inl rfl,_,mt,Rc (Rt0 rfl) (Rv),aM,?_⟩
   exact ⟨by rw [h1];rfl,rfl⟩
 ·have g1:decide ((i:Int) < (l.length:Int))=false:=decide_eq_false (by omega)
  have h1:hasA l a=false:=by rw [List.take_of_length_le (by omega)] at hno;exact hno
  refine Wq<|qW 13 14 rfl<|qK rfl<|Nl<|Wq<|Wo rfl ‹_›<|Wx<|Wq<|qW 44 45 rfl<|qA rfl<|Nl<|Wz ⟨.inl rfl,_,mt,Rc (Rt0 rfl) (Rv),aM,?_⟩
  exact ⟨by rw [h1];rfl,rfl⟩
theorem idxA_any (l:List Ad) (a:Ad) (hl:l.length≤1000):∃ v H',AFn Tryz.prog 146 0 [.isl (adsC l) l.length,.agg (adC a)] mt v H'∧∃ z:Int,decide (z ≥ 0)=hasA l a∧v=.base (.int .i64 z)∧H'=mt:=by
 refine AFn.ex Tryz.func146 rfl rfl (Nat.le_of_ble_eq_true rfl)<|Wq<|qW 0 2 rfl<|qC rfl<|qA rfl<|Nl<|Wq<|Wq<|qW 6 9 rfl<|qM rfl<|qH rfl ty37<|qM rfl<|Nl<|Wb<|W.loop_keep (α:=Nat) (fun x=>l.length - x) 1 (fun x=>[(0,.isl (adsC l) l.length),(3,.own 0 0),(8,.base (.int .i64 (x:Int)))]) (fun x=>up mt 0 (some (adC a))) (fun x=>x≤l.length∧(l.take x).any (fun x=>eqA x a)=false) 0 [(0,0)] (.cons (t:=7) rfl (by exact .inl rfl) .nil) (show 0≤l.length∧(l.take 0).any (fun x=>eqA x a)=false from ⟨Nat.zero_le _,rfl⟩) (by decide) ?_ ?_ ?_
 ·exact lC (lR rfl) (lC (lI rfl) (lC (lR rfl) lN))
 ·exact aU (kR rfl) aM
 rintro i hIA ihA
 try (dsimp only at hIA)
 try dsimp only [baseT,List.cons_append,List.nil_append]
 obtain ⟨hi,hno⟩:=hIA
 by_cases hc:i < l.length
 ·have g1:decide ((i:Int) < (l.length:Int))=true:=decide_eq_true (by omega)
  have hxt:=ads_tk hc
  have htm:=any_take hc (fun x=>eqA x a)
  have hat:=hasA_at (a:=a) hc
  have hco:=eqA_comm a l[i]
  refine Wq<|qW 13 14 rfl<|qK rfl<|Nl<|Wq<|Wt rfl ‹_›<|Wu<|Wq<|Wb<|Wq<|qW 18 20 rfl<|qM rfl<|qA rfl<|Nl ?_
  cases he:eqA a l[i]
  ·
   refine Wq<|Wd 24 30 (by decide) rfl mixed rfl<|qG rfl ty54 rfl (Tl rfl)<|qM rfl<|qM rfl<|qJ rfl rfl ty37 ty54 (by omega)<|Od rfl rfl (Lg rfl rfl ty54 rfl hxt)<|Od rfl rfl (LO.eql_ad a l[i] rfl rfl rfl)<|Nl ⟨by kernel_rfl,(Wo rfl ‹_›<|Wu<|qW 40 42 rfl<|qZ rfl (iW _ (by omega))<|qM rfl<|Nl<|WL.renameL [(0,0)] 1 (by decide) ?_ ?_ (ihA (i + 1) (show l.length - (i + 1) < l.length - i from by omega) (show (i + 1)≤l.length∧(l.take (i + 1)).any (fun x=>eqA x a)=false from ⟨by omega,by rw [htm,hno];show eqA l[i] a=false;rw [← hco,he]⟩)))⟩
   ·exact lC (lR rfl) (lC (lI rfl) (lC (lR rfl) (lC (lR rfl) lN)))
   ·exact aU (kR rfl) aM
  ·
   have h1:=hat (hco ▸ he)
   refine Wq<|Wd 24 30 (by decide) rfl mixed rfl<|qG rfl ty54 rfl (Tl rfl)<|qM rfl<|qM rfl<|qJ rfl rfl ty37 ty54 (by omega)<|Od rfl rfl (Lg rfl rfl ty54 rfl hxt)<|Od rfl rfl (LO.eql_ad a l[i] rfl rfl rfl)<|Nl ⟨by kernel_rfl,(Wt rfl ‹_›<|Wq<|qW 34 36 rfl<|qM rfl<|qA rfl<|Nl<|Wz ⟨.inl rfl,_,mt,Rc (Rt0 rfl) (Rv),aM,?_⟩)⟩
   exact ⟨(i:Int),by rw [h1];exact decide_eq_true (by omega),rfl,rfl⟩
 ·have g1:decide ((i:Int) < (l.length:Int))=false:=decide_eq_false (by omega)
  have h1:hasA l a=false:=by rw [List.take_of_length_le (by omega)] at hno;exact hno
  refine Wq<|qW 13 14 rfl<|qK rfl<|Nl<|Wq<|Wo rfl ‹_›<|Wx<|Wq<|qW 46 47 rfl<|qA rfl<|Nl<|Wz ⟨.inl rfl,_,mt,Rc (Rt0 rfl) (Rv),aM,?_⟩
  exact ⟨-1,by rw [h1];rfl,rfl,rfl⟩
theorem hasE_any (l:List Ad) (a:Ad) (hl:l.length≤1000):AFn Tryz.prog 112 0 [.isl (adsC l) l.length,.agg (adC a)] mt (.base (.bool (hasA l a))) mt:=by
 refine AFn.eq Tryz.func112 rfl rfl (Nat.le_of_ble_eq_true rfl) ?_
 obtain ⟨_,_,hx,z,hz,rfl,rfl⟩:=idxA_any l a hl
 refine Wq<|qW 0 2 rfl<|qC rfl<|qA rfl<|Nl<|Wq<|qW 6 11 rfl<|qM rfl<|qG rfl ty54 rfl (Tl rfl)<|qY rfl (hx) fok146 rfl<|qGe rfl<|qA rfl<|Nl ?_
 rw [hz]
 refine Wz ⟨.inl rfl,_,mt,Rc (Rt0 rfl) (Rv),aM,?_⟩
 exact ⟨rfl,rfl⟩
theorem widthE_any (a:Ad):AFn Tryz.prog 147 0 [.agg (adC a)] mt (.base (.int .i64 (widthA a))) mt:=by
 refine AFn.eq Tryz.func147 rfl rfl (Nat.le_of_ble_eq_true rfl) ?_
 obtain ⟨v6,hi,lo⟩:=a
 cases v6
 ·
  refine Wq<|qW 0 2 rfl<|qC rfl<|qA rfl<|Nl<|Wq<|Wq<|qW 6 8 rfl<|qF rfl ty54 rfl<|qL rfl ty4 rfl<|Nl<|Wo rfl rfl<|Wu<|Wq<|qW 17 18 rfl<|qA rfl<|Nl<|Wz ⟨.inl rfl,_,mt,Rc (Rt0 rfl) (Rv),aM,?_⟩
  exact ⟨rfl,rfl⟩
 ·
  refine Wq<|qW 0 2 rfl<|qC rfl<|qA rfl<|Nl<|Wq<|Wq<|qW 6 8 rfl<|qF rfl ty54 rfl<|qL rfl ty4 rfl<|Nl<|Wt rfl rfl<|Wq<|qW 12 13 rfl<|qA rfl<|Nl<|Wz ⟨.inl rfl,_,mt,Rc (Rt0 rfl) (Rv),aM,?_⟩
  exact ⟨rfl,rfl⟩
theorem masks8:AFn Tryz.prog 175 0 [.base (.int .i64 8)] mt (.tup [.base (.int .u64 0),.base (.int .u64 255)]) mt:=by
 refine AFn.eq Tryz.func175 rfl rfl (Nat.le_of_ble_eq_true rfl) ?_
 have e:IntKind.u64.wrap (IntKind.u64.wrap (1 * 2 ^ (min (8:Int).toNat IntKind.u64.bits)) - 1)=255:=by decide +kernel
 refine Wq<|qW 0 2 rfl<|qA rfl<|qA rfl<|Nl<|Wq<|Wq<|qW 6 8 rfl<|qM rfl<|qGt rfl<|Nl<|Wo rfl rfl<|Wu<|Wq<|qW 23 29 rfl<|qM rfl<|Od rfl rfl (Ci rfl rfl ty3 ty129 (IntWalk.u64_in _ (by omega)))<|Od rfl rfl (LO.shl rfl rfl rfl (by decide))<|Od rfl rfl (LO.sub rfl rfl rfl)<|qA rfl<|qA rfl<|Nl ?_
 rw [e]
 refine Wz ⟨.inl rfl,_,mt,Rc (Rt0 rfl) (Rc (Rt0 rfl) (Rv)),aM,?_⟩
 exact ⟨rfl,rfl⟩
theorem masks64:AFn Tryz.prog 175 0 [.base (.int .i64 64)] mt (.tup [.base (.int .u64 0),.base (.int .u64 18446744073709551615)]) mt:=by
 refine AFn.eq Tryz.func175 rfl rfl (Nat.le_of_ble_eq_true rfl) ?_
 have e:IntKind.u64.wrap (IntKind.u64.wrap (1 * 2 ^ (min (64:Int).toNat IntKind.u64.bits)) - 1)=18446744073709551615:=by decide +kernel
 refine Wq<|qW 0 2 rfl<|qA rfl<|qA rfl<|Nl<|Wq<|Wq<|qW 6 8 rfl<|qM rfl<|qGt rfl<|Nl<|Wo rfl rfl<|Wu<|Wq<|qW 23 29 rfl<|qM rfl<|Od rfl rfl (Ci rfl rfl ty3 ty129 (IntWalk.u64_in _ (by omega)))<|Od rfl rfl (LO.shl rfl rfl rfl (by decide))<|Od rfl rfl (LO.sub rfl rfl rfl)<|qA rfl<|qA rfl<|Nl ?_
 rw [e]
 refine Wz ⟨.inl rfl,_,mt,Rc (Rt0 rfl) (Rc (Rt0 rfl) (Rv)),aM,?_⟩
 exact ⟨rfl,rfl⟩
theorem first4 (hi lo:Int) (h1:U64 hi) (h2:U64 lo):AFn Tryz.prog 148 0 [.agg (adC ⟨false,hi,lo⟩),.base (.int .i64 24)] mt (.agg (adC ⟨false,hi,lo / 256 * 256⟩)) mt:=by
 refine AFn.eq Tryz.func148 rfl rfl (Nat.le_of_ble_eq_true rfl) ?_
 have hw:=widthE_any ⟨false,hi,lo⟩
 have hm:=masks8
 have e1:=andNot0 h1
 have e2:=andNot8 h2
 unfold widthA at hw
 refine Wq<|qW 0 2 rfl<|qC rfl<|qB rfl ty54<|Nl<|Wq<|qW 6 16 rfl<|qG rfl ty54 rfl (Tl rfl)<|qY rfl (hw) fok147 rfl<|qM rfl<|Od rfl rfl (LO.sub_in rfl rfl rfl (iW _ (by omega)))<|qY rfl (hm) fok175 rfl<|qM rfl<|qX rfl<|qX rfl<|qA rfl<|qA rfl<|Nl<|Wq<|qW 20 26 rfl<|qF rfl ty54 rfl<|qL rfl ty52 rfl<|qM rfl<|Od rfl rfl (LO.andNot rfl rfl rfl)<|qF rfl ty54 rfl<|qS rfl ty52 (Sl rfl) rfl<|Nl<|Wq<|qW 30 36 rfl<|qF rfl ty54 rfl<|qL rfl ty52 rfl<|qM rfl<|Od rfl rfl (LO.andNot rfl rfl rfl)<|qF rfl ty54 rfl<|qS rfl ty52 (Sl rfl) rfl<|Nl ?_
 rw [e1,e2]
 refine Wq<|qW 40 42 rfl<|qG rfl ty54 rfl (Tl rfl)<|qS rfl ty54 (Sl rfl) rfl<|Nl<|Wz ⟨.inl rfl,_,mt,(Rc (Ra0 rfl rfl ty54 rfl (Tl rfl)) Rv),aM,?_⟩
 exact ⟨rfl,rfl⟩
theorem first6 (hi lo:Int) (h1:U64 hi) (h2:U64 lo):AFn Tryz.prog 148 0 [.agg (adC ⟨true,hi,lo⟩),.base (.int .i64 64)] mt (.agg (adC ⟨true,hi,0⟩)) mt:=by
 refine AFn.eq Tryz.func148 rfl rfl (Nat.le_of_ble_eq_true rfl) ?_
 have hw:=widthE_any ⟨true,hi,lo⟩
 have hm:=masks64
 have e1:=andNot0 h1
 have e2:=andNot64 h2
 unfold widthA at hw
 refine Wq<|qW 0 2 rfl<|qC rfl<|qB rfl ty54<|Nl<|Wq<|qW 6 16 rfl<|qG rfl ty54 rfl (Tl rfl)<|qY rfl (hw) fok147 rfl<|qM rfl<|Od rfl rfl (LO.sub_in rfl rfl rfl (iW _ (by omega)))<|qY rfl (hm) fok175 rfl<|qM rfl<|qX rfl<|qX rfl<|qA rfl<|qA rfl<|Nl<|Wq<|qW 20 26 rfl<|qF rfl ty54 rfl<|qL rfl ty52 rfl<|qM rfl<|Od rfl rfl (LO.andNot rfl rfl rfl)<|qF rfl ty54 rfl<|qS rfl ty52 (Sl rfl) rfl<|Nl<|Wq<|qW 30 36 rfl<|qF rfl ty54 rfl<|qL rfl ty52 rfl<|qM rfl<|Od rfl rfl (LO.andNot rfl rfl rfl)<|qF rfl ty54 rfl<|qS rfl ty52 (Sl rfl) rfl<|Nl ?_
 rw [e1,e2]
 refine Wq<|qW 40 42 rfl<|qG rfl ty54 rfl (Tl rfl)<|qS rfl ty54 (Sl rfl) rfl<|Nl<|Wz ⟨.inl rfl,_,mt,(Rc (Ra0 rfl rfl ty54 rfl (Tl rfl)) Rv),aM,?_⟩
 exact ⟨rfl,rfl⟩
theorem conE4 (a:Ad) (h6:a.v6=false) (hv:validA a.v6 a.hi a.lo=true) (h1:U64 a.hi) (h2:U64 a.lo):AFn Tryz.prog 113 0 [.agg (preC lan4),.agg (adC a)] mt (.base (.bool (in4 a))) mt:=by
 refine AFn.eq Tryz.func113 rfl rfl (Nat.le_of_ble_eq_true rfl) ?_
 obtain ⟨v6,hi,lo⟩:=a
 dsimp only at h6 hv h1 h2
 subst h6
 have hw:=widthE_any ⟨false,hi,lo⟩
 have hf:=first4 hi lo h1 h2
 unfold widthA at hw
 have he:eqA ⟨false,hi,lo / 256 * 256⟩ lan4.ad=in4 ⟨false,hi,lo⟩:=by
  unfold eqA lan4 in4
  rw [Bool.eq_iff_iff]
  unfold validA at hv
  simp at hv
  simp
  omega
 have k1:(false == false)=true:=rfl
 refine Wq<|qW 0 3 rfl<|qC rfl<|qC rfl<|qA rfl<|Nl<|Wq<|Wd 7 35 (by decide) rfl mixed rfl<|qF rfl ty56 rfl<|qF rfl ty54 rfl<|qL rfl ty4 rfl<|qF rfl ty54 rfl<|qL rfl ty4 rfl<|Od rfl rfl (LO.eql_bool rfl rfl rfl ty4)<|qM rfl<|gF rfl rfl ty56 rfl<|gL rfl rfl ty3 rfl<|gGe rfl rfl<|qT rfl rfl rfl<|qM rfl<|gF rfl rfl ty56 rfl<|gL rfl rfl ty3 rfl<|gG rfl rfl ty54 rfl (Tl rfl)<|gY rfl rfl (hw) fok147 rfl<|gLe rfl rfl<|qT rfl rfl rfl<|qM rfl<|gG rfl rfl ty54 rfl (Tl rfl)<|gF rfl rfl ty56 rfl<|gL rfl rfl ty3 rfl<|gY rfl rfl (hf) fok148 rfl<|gF rfl rfl ty56 rfl<|gG rfl rfl ty54 rfl (Tl rfl)<|qU rfl rfl rfl (LO.eql_ad_b ⟨false,hi,lo / 256 * 256⟩ lan4.ad he rfl rfl rfl)<|qT rfl rfl rfl<|qA rfl<|Nl ⟨by kernel_rfl,(Wz ⟨.inl rfl,_,mt,Rc (Rt0 rfl) (Rv),aM,?_⟩)⟩
 exact ⟨rfl,rfl⟩
theorem conE6 (a:Ad) (h6:a.v6=true) (h1:U64 a.hi) (h2:U64 a.lo):AFn Tryz.prog 113 0 [.agg (preC lan6),.agg (adC a)] mt (.base (.bool (in6 a))) mt:=by
 refine AFn.eq Tryz.func113 rfl rfl (Nat.le_of_ble_eq_true rfl) ?_
 obtain ⟨v6,hi,lo⟩:=a
 dsimp only at h6 h1 h2
 subst h6
 have hw:=widthE_any ⟨true,hi,lo⟩
 have hf:=first6 hi lo h1 h2
 unfold widthA at hw
 have he:eqA ⟨true,hi,0⟩ lan6.ad=in6 ⟨true,hi,lo⟩:=by
  unfold eqA lan6 in6
  rw [Bool.eq_iff_iff]
  simp
 refine Wq<|qW 0 3 rfl<|qC rfl<|qC rfl<|qA rfl<|Nl<|Wq<|Wd 7 35 (by decide) rfl mixed rfl<|qF rfl ty56 rfl<|qF rfl ty54 rfl<|qL rfl ty4 rfl<|qF rfl ty54 rfl<|qL rfl ty4 rfl<|Od rfl rfl (LO.eql_bool rfl rfl rfl ty4)<|qM rfl<|gF rfl rfl ty56 rfl<|gL rfl rfl ty3 rfl<|gGe rfl rfl<|qT rfl rfl rfl<|qM rfl<|gF rfl rfl ty56 rfl<|gL rfl rfl ty3 rfl<|gG rfl rfl ty54 rfl (Tl rfl)<|gY rfl rfl (hw) fok147 rfl<|gLe rfl rfl<|qT rfl rfl rfl<|qM rfl<|gG rfl rfl ty54 rfl (Tl rfl)<|gF rfl rfl ty56 rfl<|gL rfl rfl ty3 rfl<|gY rfl rfl (hf) fok148 rfl<|gF rfl rfl ty56 rfl<|gG rfl rfl ty54 rfl (Tl rfl)<|qU rfl rfl rfl (LO.eql_ad_b ⟨true,hi,0⟩ lan6.ad he rfl rfl rfl)<|qT rfl rfl rfl<|qA rfl<|Nl ⟨by kernel_rfl,(Wz ⟨.inl rfl,_,mt,Rc (Rt0 rfl) (Rv),aM,?_⟩)⟩
 exact ⟨rfl,rfl⟩
def solM (a:Ad):List Int:=if a.v6=true then [51,51,255,IntKind.u8.wrap (a.lo.fdiv (2 ^ (min (16:Int).toNat IntKind.u64.bits))),IntKind.u8.wrap (a.lo.fdiv (2 ^ (min (8:Int).toNat IntKind.u64.bits))),IntKind.u8.wrap a.lo] else [0,0,0,0,0,0]
theorem solM_len (a:Ad):(solM a).length=6:=by unfold solM;split<;>rfl
theorem solE_any (a:Ad):AFn Tryz.prog 118 0 [.agg (adC a)] mt (.agg (bytesC (solM a))) mt:=by
 refine AFn.eq Tryz.func118 rfl rfl (Nat.le_of_ble_eq_true rfl) ?_
 obtain ⟨v6,hi,lo⟩:=a
 cases v6
 ·
  refine Wq<|qW 0 2 rfl<|qC rfl<|qB rfl ty23<|Nl<|Wq<|Wq<|qW 6 9 rfl<|qF rfl ty54 rfl<|qL rfl ty4 rfl<|qO rfl<|Nl<|Wt rfl rfl<|Wq<|qW 13 15 rfl<|Od rfl rfl (LO.build_ar rfl ty23 ty5 .nil)<|qS rfl ty23 (Sl rfl) rfl<|Nl<|Wz ⟨.inl rfl,_,mt,(Rc (Ra0 rfl rfl ty23 rfl (Tl rfl)) Rv),aM,?_⟩
  exact ⟨rfl,rfl⟩
 ·
  refine Wq<|qW 0 2 rfl<|qC rfl<|qB rfl ty23<|Nl<|Wq<|Wq<|qW 6 9 rfl<|qF rfl ty54 rfl<|qL rfl ty4 rfl<|qO rfl<|Nl<|Wo rfl rfl<|Wu<|Wq<|qW 19 32 rfl<|qF rfl ty54 rfl<|qL rfl ty52 rfl<|Od rfl rfl (LO.shr rfl rfl rfl (by omega))<|Od rfl rfl (LO.conv rfl rfl ty52 ty5)<|qF rfl ty54 rfl<|qL rfl ty52 rfl<|Od rfl rfl (LO.shr rfl rfl rfl (by omega))<|Od rfl rfl (LO.conv rfl rfl ty52 ty5)<|qF rfl ty54 rfl<|qL rfl ty52 rfl<|Od rfl rfl (LO.conv rfl rfl ty52 ty5)<|Od rfl rfl (LO.build_ar rfl ty23 ty5 (.cons rfl rfl rfl rfl (Sl rfl) (.cons rfl rfl rfl rfl (Sl rfl) (.cons rfl rfl rfl rfl (Sl rfl) (.cons rfl rfl rfl rfl (Sl rfl) (.cons rfl rfl rfl rfl (Sl rfl) (.cons rfl rfl rfl rfl (Sl rfl) .nil)))))))<|qS rfl ty23 (Sl rfl) rfl<|Nl<|Wz ⟨.inl rfl,_,mt,(Rc (Ra0 rfl rfl ty23 rfl (Tl rfl)) Rv),aM,?_⟩
  exact ⟨rfl,rfl⟩
structure RlG (r:Rl):Prop where
 nm:r.macs.length≤1000
 macs:∀ m,m∈r.macs→m.length=6
 n4:r.v4.length≤1000
 n6:r.v6.length≤1000
theorem RlOk.g {r:Rl} (h:RlOk r):RlG r:=⟨h.nm.2,fun m hm=>(h.macs m hm).1,h.n4,h.n6⟩
theorem grE_any (f:Fr) (hf:FrX f):AFn Tryz.prog 34 0 [.agg (frC f)] mt (.base (.bool (grpE f.dst))) mt:=by
 refine AFn.eq Tryz.func34 rfl rfl (Nat.le_of_ble_eq_true rfl) ?_
 have hg:=grpE_any f.dst hf.ok.d6
 obtain ⟨fd,fs,fv,ft,fx⟩:=f
 have p6:=hf.ok.d6
 have q6:=hf.ok.s6
 clear hf
 dsimp only at p6 q6 hg
 obtain ⟨p0,p1,p2,p3,p4,p5,rfl⟩:=six_of p6
 obtain ⟨q0,q1,q2,q3,q4,q5,rfl⟩:=six_of q6
 refine Wq<|qW 0 2 rfl<|qC rfl<|qA rfl<|Nl<|Wq<|qW 6 10 rfl<|qF rfl ty26 rfl<|qG rfl ty23 rfl (Tl rfl)<|qY rfl (hg) fok73 rfl<|qA rfl<|Nl<|Wz ⟨.inl rfl,_,mt,Rc (Rt0 rfl) (Rv),aM,?_⟩
 exact ⟨rfl,rfl⟩
def plainF (bc gr:Bool):Int:=if bc then 10 else if gr then 5 else 0
theorem plainE_any (f:Fr) (hf:FrX f):AFn Tryz.prog 64 0 [.agg (frC f)] mt (.base (.int .i64 (plainF (decide (f.dst=bcM)) (grpE f.dst)))) mt:=by
 refine AFn.eq Tryz.func64 rfl rfl (Nat.le_of_ble_eq_true rfl) ?_
 have hg:=grE_any f hf
 generalize grpE f.dst=gr at *
 obtain ⟨bc,hbc⟩:∃ b,decide (f.dst=bcM)=b:=⟨_,rfl⟩
 rw [hbc]
 obtain ⟨fd,fs,fv,ft,fx⟩:=f
 have p6:=hf.ok.d6
 have q6:=hf.ok.s6
 clear hf
 dsimp only at p6 q6 hg hbc
 obtain ⟨p0,p1,p2,p3,p4,p5,rfl⟩:=six_of p6
 obtain ⟨q0,q1,q2,q3,q4,q5,rfl⟩:=six_of q6
 refine Wq<|qW 0 2 rfl<|qC rfl<|qA rfl<|Nl<|Wq<|Wb ?_
 cases bc
 ·
  refine Wq<|Wd 6 11 (by decide) rfl mixed rfl<|qF rfl ty26 rfl<|qG rfl ty23 rfl (Tl rfl)<|qY rfl (bcE_any) fok114 rfl<|Od rfl rfl (LO.eql_mac_b [p0,p1,p2,p3,p4,p5] bcM hbc rfl rfl rfl rfl rfl)<|qA rfl<|Nl ⟨by kernel_rfl,(Wo rfl rfl ?_)⟩
  cases gr
  ·
   refine Wq<|qW 20 23 rfl<|qG rfl ty26 rfl (Tl rfl)<|qY rfl (hg) fok34 rfl<|qA rfl<|Nl<|Wo rfl rfl<|Wu<|Wq<|qW 32 33 rfl<|qA rfl<|Nl<|Wz ⟨.inl rfl,_,mt,Rc (Rt0 rfl) (Rv),aM,?_⟩
   exact ⟨rfl,rfl⟩
  ·
   refine Wq<|qW 20 23 rfl<|qG rfl ty26 rfl (Tl rfl)<|qY rfl (hg) fok34 rfl<|qA rfl<|Nl<|Wt rfl rfl<|Wq<|qW 27 28 rfl<|qA rfl<|Nl<|Wz ⟨.inl rfl,_,mt,Rc (Rt0 rfl) (Rv),aM,?_⟩
   exact ⟨rfl,rfl⟩
 ·
  refine Wq<|Wd 6 11 (by decide) rfl mixed rfl<|qF rfl ty26 rfl<|qG rfl ty23 rfl (Tl rfl)<|qY rfl (bcE_any) fok114 rfl<|Od rfl rfl (LO.eql_mac_b [p0,p1,p2,p3,p4,p5] bcM hbc rfl rfl rfl rfl rfl)<|qA rfl<|Nl ⟨by kernel_rfl,(Wt rfl rfl<|Wq<|qW 15 16 rfl<|qA rfl<|Nl<|Wz ⟨.inl rfl,_,mt,Rc (Rt0 rfl) (Rv),aM,?_⟩)⟩
  exact ⟨rfl,rfl⟩
def resolF (e0 fm own tin gr bc:Bool):Int:=if e0 then 6 else if !fm || !own then 7 else if !tin then 8 else if gr && !bc then 5 else 0
def resolV (r:Rl) (f:Fr):Int:=resolF (arpE f.data != 0) (decide ((arpOf f.data).fm=f.src)) (hasA r.v4 (arpOf f.data).fr) (in4 (arpOf f.data).tt) (grpE f.dst) (decide (f.dst=bcM))
theorem arp_fit {b:List Int} (h:arpE b=0):(arpOf b).fm.length=6∧(arpOf b).tm.length=6∧ip4 (arpOf b).fr=true∧ip4 (arpOf b).tt=true∧(U64 (arpOf b).fr.hi∧U64 (arpOf b).fr.lo)∧U64 (arpOf b).tt.hi∧U64 (arpOf b).tt.lo:=by
 have h28:28≤b.length:=by
  rcases Nat.lt_or_ge b.length 28 with h3|h3
  ·unfold arpE at h;rw [if_pos h3] at h;cases h
  ·exact h3
 unfold arpE at h
 rw [if_neg (by omega)] at h
 have hv:(hdE (b.take 6) && arpV (arpOf b))=true:=by
  cases hc:(hdE (b.take 6) && arpV (arpOf b))
  ·rw [hc] at h;cases h
  ·rfl
 rw [Bool.and_eq_true] at hv
 have hv2:=hv.2
 unfold arpV at hv2
 simp only [Bool.and_eq_true] at hv2
 refine ⟨?_,?_,hv2.2.1,hv2.2.2,?_,?_⟩
 ·show ((b.drop 8).take 6).length=6
  rw [List.length_take,List.length_drop];omega
 ·show ((b.drop 18).take 6).length=6
  rw [List.length_take,List.length_drop];omega
 ·exact fb_bd _
 ·exact fb_bd _
set_option maxHeartbeats 2000000 in
theorem resolE_any (r:Rl) (hr:RlG r) (f:Fr) (hf:FrX f):AFn Tryz.prog 63 0 [.agg (ruleC r),.agg (preC lan4),.agg (frC f)] mt (.base (.int .i64 (resolV r f))) mt:=by
 refine AFn.eq Tryz.func63 rfl rfl (Nat.le_of_ble_eq_true rfl) ?_
 have hg:=grE_any f hf
 have harp:=arp_any f.data hf.ok.bB
 have hown:=hasE_any r.v4 (arpOf f.data).fr hr.n4
 have hfit:=arp_fit (b:=f.data)
 have hcon:=fun h=>conE4 (arpOf f.data).tt h
 unfold resolV
 generalize grpE f.dst=gr at *
 obtain ⟨bc,hbc⟩:∃ b,decide (f.dst=bcM)=b:=⟨_,rfl⟩
 rw [hbc]
 unfold arpR at harp
 generalize arpOf f.data=A at *
 generalize arpE f.data=ae at *
 obtain ⟨fm,hfm⟩:∃ b,decide (A.fm=f.src)=b:=⟨_,rfl⟩
 rw [hfm]
 generalize hasA r.v4 A.fr=own at *
 generalize htin:in4 A.tt=tin at *
 obtain ⟨fd,fs,fv,ft,fx⟩:=f
 have p6:=hf.ok.d6
 have q6:=hf.ok.s6
 clear hf
 dsimp only at p6 q6 hg hbc hfm harp
 obtain ⟨p0,p1,p2,p3,p4,p5,rfl⟩:=six_of p6
 obtain ⟨q0,q1,q2,q3,q4,q5,rfl⟩:=six_of q6
 refine Wq<|qW 0 4 rfl<|qC rfl<|qC rfl<|qC rfl<|qA rfl<|Nl ?_
 by_cases he:ae=0
 case' neg =>
  have k:(ae != 0)=true:=by simpa using he
  rw [if_neg he] at harp
  rw [k]
  refine Wq<|qW 8 17 rfl<|qF rfl ty26 rfl<|qL rfl ty24 rfl<|qY rfl (harp) fok111 rfl<|qM rfl<|qX rfl<|qX rfl<|qB rfl ty78<|qS rfl ty78 (Sl rfl) rfl<|qA rfl<|Nl<|Wq<|Wb<|Wq<|qW 21 24 rfl<|qM rfl<|qN rfl<|qA rfl<|Nl<|Wt rfl ‹_›<|Wq<|qW 28 29 rfl<|qA rfl<|Nl<|Wz ⟨.inl rfl,_,mt,Rc (Rt0 rfl) (Rv),aM,?_⟩
  exact ⟨rfl,rfl⟩
 case' pos =>
  subst he
  obtain ⟨l1,l2,l3,l4,l5,l6⟩:=hfit rfl
  have hco2:=hcon (ip4_v6 l4) (by unfold ip4 at l4;simp only [Bool.and_eq_true] at l4;exact l4.1) l6.1 l6.2
  rw [if_pos rfl] at harp
  clear hfit htin hcon l3 l4 l5 l6
  obtain ⟨op,am,afr,tm,att⟩:=A
  dsimp only at l1 l2 hfm hown hco2
  obtain ⟨m0,m1,m2,m3,m4,m5,rfl⟩:=six_of l1
  obtain ⟨n0,n1,n2,n3,n4,n5,rfl⟩:=six_of l2
  obtain ⟨r1,r2,r3,r4,r5,r6,r7,r8⟩:=r
  dsimp only at hown
  clear hr
  obtain ⟨a6,ah,al⟩:=afr
  obtain ⟨t6,th,tl⟩:=att
  refine Wq<|qW 8 17 rfl<|qF rfl ty26 rfl<|qL rfl ty24 rfl<|qY rfl (harp) fok111 rfl<|qM rfl<|qX rfl<|qX rfl<|qB rfl ty78<|qS rfl ty78 (Sl rfl) rfl<|qA rfl<|Nl<|Wq<|Wb<|Wq<|qW 21 24 rfl<|qM rfl<|qN rfl<|qA rfl<|Nl<|Wo rfl (rfl) ?_
  cases fm
  ·
   refine Wq<|qW 33 47 rfl<|qF rfl ty78 rfl<|qG rfl ty23 rfl (Tl rfl)<|qF rfl ty26 rfl<|qG rfl ty23 rfl (Tl rfl)<|Od rfl rfl (LO.neq_mac_b [m0,m1,m2,m3,m4,m5] [q0,q1,q2,q3,q4,q5] hfm rfl rfl rfl rfl rfl)<|qM rfl<|qD rfl rfl rfl<|qD rfl rfl rfl<|qD rfl rfl rfl<|qD rfl rfl rfl<|qD rfl rfl rfl<|qD rfl rfl rfl<|qT rfl rfl rfl<|qA rfl<|Nl<|Wt rfl rfl<|Wq<|qW 51 52 rfl<|qA rfl<|Nl<|Wz ⟨.inl rfl,_,mt,Rc (Rt0 rfl) (Rv),aM,?_⟩
   exact ⟨rfl,rfl⟩
  ·
   cases own
   ·
    refine Wq<|qW 33 47 rfl<|qF rfl ty78 rfl<|qG rfl ty23 rfl (Tl rfl)<|qF rfl ty26 rfl<|qG rfl ty23 rfl (Tl rfl)<|Od rfl rfl (LO.neq_mac_b [m0,m1,m2,m3,m4,m5] [q0,q1,q2,q3,q4,q5] hfm rfl rfl rfl rfl rfl)<|qM rfl<|gF rfl rfl ty39 rfl<|gL rfl rfl ty37 rfl<|gF rfl rfl ty78 rfl<|gG rfl rfl ty54 rfl (Tl rfl)<|gY rfl rfl (hown) fok112 rfl<|gO rfl rfl<|qP rfl rfl rfl<|qA rfl<|Nl<|Wt rfl rfl<|Wq<|qW 51 52 rfl<|qA rfl<|Nl<|Wz ⟨.inl rfl,_,mt,Rc (Rt0 rfl) (Rv),aM,?_⟩
    exact ⟨rfl,rfl⟩
   ·
    refine Wq<|qW 33 47 rfl<|qF rfl ty78 rfl<|qG rfl ty23 rfl (Tl rfl)<|qF rfl ty26 rfl<|qG rfl ty23 rfl (Tl rfl)<|Od rfl rfl (LO.neq_mac_b [m0,m1,m2,m3,m4,m5] [q0,q1,q2,q3,q4,q5] hfm rfl rfl rfl rfl rfl)<|qM rfl<|gF rfl rfl ty39 rfl<|gL rfl rfl ty37 rfl<|gF rfl rfl ty78 rfl<|gG rfl rfl ty54 rfl (Tl rfl)<|gY rfl rfl (hown) fok112 rfl<|gO rfl rfl<|qP rfl rfl rfl<|qA rfl<|Nl<|Wo rfl rfl ?_
    cases tin
    ·
     refine Wq<|qW 56 62 rfl<|qG rfl ty56 rfl (Tl rfl)<|qF rfl ty78 rfl<|qG rfl ty54 rfl (Tl rfl)<|qY rfl (hco2) fok113 rfl<|qO rfl<|qA rfl<|Nl<|Wt rfl rfl<|Wq<|qW 66 67 rfl<|qA rfl<|Nl<|Wz ⟨.inl rfl,_,mt,Rc (Rt0 rfl) (Rv),aM,?_⟩
     exact ⟨rfl,rfl⟩
    ·
     refine Wq<|qW 56 62 rfl<|qG rfl ty56 rfl (Tl rfl)<|qF rfl ty78 rfl<|qG rfl ty54 rfl (Tl rfl)<|qY rfl (hco2) fok113 rfl<|qO rfl<|qA rfl<|Nl<|Wo rfl rfl ?_
     cases gr
     ·
      refine Wq<|Wd 71 80 (by decide) rfl mixed rfl<|qG rfl ty26 rfl (Tl rfl)<|qY rfl (hg) fok34 rfl<|qM rfl<|qD rfl rfl rfl<|qD rfl rfl rfl<|qD rfl rfl rfl<|qD rfl rfl rfl<|qP rfl rfl rfl<|qA rfl<|Nl ⟨by kernel_rfl,(Wo rfl rfl<|Wu<|Wq<|qW 89 90 rfl<|qA rfl<|Nl<|Wz ⟨.inl rfl,_,mt,Rc (Rt0 rfl) (Rv),aM,?_⟩)⟩
      exact ⟨rfl,rfl⟩
     ·
      cases bc
      ·
       refine Wq<|Wd 71 80 (by decide) rfl mixed rfl<|qG rfl ty26 rfl (Tl rfl)<|qY rfl (hg) fok34 rfl<|qM rfl<|gF rfl rfl ty26 rfl<|gG rfl rfl ty23 rfl (Tl rfl)<|gY rfl rfl (bcE_any) fok114 rfl<|qU rfl rfl rfl (LO.neq_mac_b [p0,p1,p2,p3,p4,p5] bcM hbc rfl rfl rfl rfl rfl)<|qT rfl rfl rfl<|qA rfl<|Nl ⟨by kernel_rfl,(Wt rfl rfl<|Wq<|qW 84 85 rfl<|qA rfl<|Nl<|Wz ⟨.inl rfl,_,mt,Rc (Rt0 rfl) (Rv),aM,?_⟩)⟩
       exact ⟨rfl,rfl⟩
      ·
       refine Wq<|Wd 71 80 (by decide) rfl mixed rfl<|qG rfl ty26 rfl (Tl rfl)<|qY rfl (hg) fok34 rfl<|qM rfl<|gF rfl rfl ty26 rfl<|gG rfl rfl ty23 rfl (Tl rfl)<|gY rfl rfl (bcE_any) fok114 rfl<|qU rfl rfl rfl (LO.neq_mac_b [p0,p1,p2,p3,p4,p5] bcM hbc rfl rfl rfl rfl rfl)<|qT rfl rfl rfl<|qA rfl<|Nl ⟨by kernel_rfl,(Wo rfl rfl<|Wu<|Wq<|qW 89 90 rfl<|qA rfl<|Nl<|Wz ⟨.inl rfl,_,mt,Rc (Rt0 rfl) (Rv),aM,?_⟩)⟩
       exact ⟨rfl,rfl⟩
theorem decR_tg {p:Pk} (he:(decR p).2=0) (hk:(decR p).1.k=135∨(decR p).1.k=136):(decR p).1.tg.v6=true∧U64 (decR p).1.tg.hi∧U64 (decR p).1.tg.lo:=by
 unfold decR at he hk ⊢
 split at he
 ·rename_i h;exact absurd he h
 ·rename_i h
  rw [if_neg h] at hk ⊢
  unfold rdB at he hk ⊢
  split at he
  ·cases he
  ·rename_i h1
   rw [if_neg h1] at hk ⊢
   split at he
   ·cases he
   ·rename_i h2
    rw [if_neg h2] at hk ⊢
    split at he
    ·cases he
    ·split at he
     ·cases he
     ·rename_i r hr h3
      simp only [hr] at hk ⊢
      rw [if_neg h3] at hk ⊢
      dsimp only at hk ⊢
      have ht:targB (gB p.bs 0)=true:=by unfold targB;simp;omega
      have hf:fixN (gB p.bs 0)=20:=by
       rcases hk with e|e<;>rw [e]<;>decide
      unfold tgF adOf
      rw [if_pos ht]
      have hl:(((p.bs.drop 4).drop 4).take (20 - 4)).length=16:=by
       rw [List.length_take,List.length_drop];omega
      rw [hl]
      exact ⟨rfl,fb_bd _⟩
def sndF (pb has lnk own src k6:Bool):Bool:=if has && !lnk then false else if !pb && !src then false else own || !k6
def sndV (r:Rl) (f:Fr) (p:Pk) (n:Nb):Bool:=sndF (n.k == 135 && (eqA p.s ⟨true,0,0⟩ && hasA r.v6 n.tg)) n.has (decide (n.ln=f.src)) (hasA r.v6 n.tg) (hasA r.v6 p.s) (n.k == 136)
set_option maxHeartbeats 4000000 in
theorem sender_any (r:Rl) (hr:RlG r) (f:Fr) (hf:FrX f) (p:Pk) (n:Nb) (hn:n.ln.length=6):AFn Tryz.prog 117 0 [.agg (ruleC r),.agg (frC f),.agg (pkC p),.agg (nbC n)] mt (.base (.bool (sndV r f p n))) mt:=by
 refine AFn.eq Tryz.func117 rfl rfl (Nat.le_of_ble_eq_true rfl) ?_
 have hown:=hasE_any r.v6 n.tg hr.n6
 have hsrc:=hasE_any r.v6 p.s hr.n6
 unfold sndV
 generalize hasA r.v6 n.tg=own at *
 generalize hasA r.v6 p.s=src at *
 obtain ⟨z,hz⟩:∃ b,eqA p.s ⟨true,0,0⟩=b:=⟨_,rfl⟩
 rw [hz]
 obtain ⟨lnk,hlnk⟩:∃ b,decide (n.ln=f.src)=b:=⟨_,rfl⟩
 rw [hlnk]
 obtain ⟨b5,h5⟩:∃ b,(n.k == 135)=b:=⟨_,rfl⟩
 rw [h5]
 obtain ⟨pb,hpb⟩:∃ b,(b5 && (z && own))=b:=⟨_,rfl⟩
 rw [hpb]
 obtain ⟨fd,fs,fv,ft,fx⟩:=f
 have p6:=hf.ok.d6
 have q6:=hf.ok.s6
 clear hf
 obtain ⟨r1,r2,r3,r4,r5,r6,r7,r8⟩:=r
 clear hr
 obtain ⟨k,fl,tg,has,ln⟩:=n
 obtain ⟨ps,pd,pp,pt,pbs⟩:=p
 dsimp only at p6 q6 hn hlnk h5 hown hsrc hz
 obtain ⟨p0,p1,p2,p3,p4,p5,rfl⟩:=six_of p6
 obtain ⟨q0,q1,q2,q3,q4,q5,rfl⟩:=six_of q6
 obtain ⟨m0,m1,m2,m3,m4,m5,rfl⟩:=six_of hn
 obtain ⟨t6,th,tl⟩:=tg
 obtain ⟨s6,sh,sl⟩:=ps
 obtain ⟨e6,eh,el⟩:=pd
 refine Wq<|qW 0 5 rfl<|qC rfl<|qC rfl<|qC rfl<|qC rfl<|qA rfl<|Nl<|Wq<|qW 9 15 rfl<|qF rfl ty39 rfl<|qL rfl ty37 rfl<|qF rfl ty87 rfl<|qG rfl ty54 rfl (Tl rfl)<|qY rfl (hown) fok112 rfl<|qA rfl<|Nl<|Wq<|W.joinK (α:=Bool) 4 (fun x=>[(4,.own 0 0),(5,.own 1 0),(6,.own 2 0),(7,.own 3 0),(10,.base (.bool x))]) (fun x=>up (up (up (up mt 0 (some (ruleC ⟨r1,r2,r3,r4,r5,r6,r7,r8⟩))) 1 (some (frC ⟨[p0,p1,p2,p3,p4,p5],[q0,q1,q2,q3,q4,q5],fv,ft,fx⟩))) 2 (some (pkC ⟨⟨s6,sh,sl⟩,⟨e6,eh,el⟩,pp,pt,pbs⟩))) 3 (some (nbC ⟨k,fl,⟨t6,th,tl⟩,has,[m0,m1,m2,m3,m4,m5]⟩))) (fun x=>x=pb) (.cons (t:=9) rfl (by exact .inl rfl) .nil) ?_ ?_
 rotate_left
 rintro pv hIJ
 try (dsimp only at hIJ)
 try dsimp only [joinT,baseT,List.cons_append,List.nil_append]
 rotate_right
 ·
  cases b5
  ·
   refine qW 19 32 rfl<|qF rfl ty87 rfl<|qL rfl ty3 rfl<|qE rfl<|qM rfl<|qD rfl ‹_› rfl<|qD rfl ‹_› rfl<|qD rfl ‹_› rfl<|qD rfl ‹_› rfl<|qP rfl ‹_› rfl<|qM rfl<|qD rfl rfl rfl<|qP rfl rfl rfl<|qA rfl<|Nl ?_
   intro yJ KJ hJ
   refine W.renameJ [(0,0),(1,1),(2,2),(3,3)] 4 (by decide) ?_ ?_ (hJ false (show false=pb from hpb))
   ·exact lC (lI rfl) (lC (lI rfl) (lC (lI rfl) (lC (lI rfl) (lC (lR rfl) (lC (lR rfl) lN)))))
   ·exact aU (kR rfl) (aU (kR rfl) (aU (kR rfl) (aU (kR rfl) aM)))
  ·
   cases z
   ·
    refine qW 19 32 rfl<|qF rfl ty87 rfl<|qL rfl ty3 rfl<|qE rfl<|qM rfl<|gF rfl ‹_› ty83 rfl<|gG rfl ‹_› ty54 rfl (Tl rfl)<|qU rfl ‹_› rfl (Bs rfl ty54 (.cons rfl rfl rfl rfl (Sl rfl) .nil))<|qU rfl ‹_› rfl (LO.eql_ad_b ⟨s6,sh,sl⟩ ⟨true,0,0⟩ hz rfl rfl rfl)<|qT rfl ‹_› rfl<|qM rfl<|qD rfl rfl rfl<|qP rfl rfl rfl<|qA rfl<|Nl ?_
    intro yJ KJ hJ
    refine W.renameJ [(0,0),(1,1),(2,2),(3,3)] 4 (by decide) ?_ ?_ (hJ false (show false=pb from hpb))
    ·exact lC (lI rfl) (lC (lI rfl) (lC (lI rfl) (lC (lI rfl) (lC (lR rfl) (lC (lR rfl) lN)))))
    ·exact aU (kR rfl) (aU (kR rfl) (aU (kR rfl) (aU (kR rfl) aM)))
   ·
    refine qW 19 32 rfl<|qF rfl ty87 rfl<|qL rfl ty3 rfl<|qE rfl<|qM rfl<|gF rfl ‹_› ty83 rfl<|gG rfl ‹_› ty54 rfl (Tl rfl)<|qU rfl ‹_› rfl (Bs rfl ty54 (.cons rfl rfl rfl rfl (Sl rfl) .nil))<|qU rfl ‹_› rfl (LO.eql_ad_b ⟨s6,sh,sl⟩ ⟨true,0,0⟩ hz rfl rfl rfl)<|qT rfl ‹_› rfl<|qM rfl<|gM rfl rfl<|qT rfl rfl rfl<|qA rfl<|Nl ?_
    intro yJ KJ hJ
    refine W.renameJ [(0,0),(1,1),(2,2),(3,3)] 4 (by decide) ?_ ?_ (hJ own (show own=pb from by rw [← hpb];cases own<;>rfl))
    ·exact lC (lI rfl) (lC (lI rfl) (lC (lI rfl) (lC (lI rfl) (lC (lR rfl) (lC (lR rfl) lN)))))
    ·exact aU (kR rfl) (aU (kR rfl) (aU (kR rfl) (aU (kR rfl) aM)))
 subst hIJ
 clear hpb h5 hz
 refine Wq<|Wb ?_
 cases has
 case' false =>
  refine Wq<|qW 36 46 rfl<|qF rfl ty87 rfl<|qL rfl ty4 rfl<|qM rfl<|qD rfl rfl rfl<|qD rfl rfl rfl<|qD rfl rfl rfl<|qD rfl rfl rfl<|qD rfl rfl rfl<|qP rfl rfl rfl<|qA rfl<|Nl<|Wo rfl rfl ?_
 case' true =>
  cases lnk
  case' false =>
   refine Wq<|qW 36 46 rfl<|qF rfl ty87 rfl<|qL rfl ty4 rfl<|qM rfl<|gF rfl rfl ty87 rfl<|gG rfl rfl ty23 rfl (Tl rfl)<|gF rfl rfl ty26 rfl<|gG rfl rfl ty23 rfl (Tl rfl)<|qU rfl rfl rfl (LO.neq_mac_b [m0,m1,m2,m3,m4,m5] [q0,q1,q2,q3,q4,q5] hlnk rfl rfl rfl rfl rfl)<|qT rfl rfl rfl<|qA rfl<|Nl<|Wt rfl rfl<|Wq<|qW 50 51 rfl<|qA rfl<|Nl<|Wz ⟨.inl rfl,_,mt,Rc (Rt0 rfl) (Rv),aM,?_⟩
   exact ⟨rfl,rfl⟩
  case' true =>
   refine Wq<|qW 36 46 rfl<|qF rfl ty87 rfl<|qL rfl ty4 rfl<|qM rfl<|gF rfl rfl ty87 rfl<|gG rfl rfl ty23 rfl (Tl rfl)<|gF rfl rfl ty26 rfl<|gG rfl rfl ty23 rfl (Tl rfl)<|qU rfl rfl rfl (LO.neq_mac_b [m0,m1,m2,m3,m4,m5] [q0,q1,q2,q3,q4,q5] hlnk rfl rfl rfl rfl rfl)<|qT rfl rfl rfl<|qA rfl<|Nl<|Wo rfl rfl ?_
 all_goals
  cases pv
  case' true =>
   repeat (refine Wq ?_)
   refine qW 55 66 rfl<|qM rfl<|qO rfl<|qM rfl<|qD rfl rfl rfl<|qD rfl rfl rfl<|qD rfl rfl rfl<|qD rfl rfl rfl<|qD rfl rfl rfl<|qD rfl rfl rfl<|qP rfl rfl rfl<|qA rfl<|Nl<|Wo rfl rfl ?_
  case' false =>
   cases src
   case' false =>
    repeat (refine Wq ?_)
    refine qW 55 66 rfl<|qM rfl<|qO rfl<|qM rfl<|gF rfl rfl ty39 rfl<|gL rfl rfl ty37 rfl<|gF rfl rfl ty83 rfl<|gG rfl rfl ty54 rfl (Tl rfl)<|gY rfl rfl (hsrc) fok112 rfl<|gO rfl rfl<|qT rfl rfl rfl<|qA rfl<|Nl<|Wt rfl rfl ?_
    repeat (refine Wq ?_)
    refine qW 70 71 rfl<|qA rfl<|Nl<|Wz ⟨.inl rfl,_,mt,Rc (Rt0 rfl) (Rv),aM,?_⟩
    exact ⟨rfl,rfl⟩
   case' true =>
    repeat (refine Wq ?_)
    refine qW 55 66 rfl<|qM rfl<|qO rfl<|qM rfl<|gF rfl rfl ty39 rfl<|gL rfl rfl ty37 rfl<|gF rfl rfl ty83 rfl<|gG rfl rfl ty54 rfl (Tl rfl)<|gY rfl rfl (hsrc) fok112 rfl<|gO rfl rfl<|qT rfl rfl rfl<|qA rfl<|Nl<|Wo rfl rfl ?_
  all_goals
   refine Wu ?_
   cases own
   ·
    repeat (refine Wq ?_)
    refine qW 75 82 rfl<|qM rfl<|qM rfl<|gF rfl rfl ty87 rfl<|gL rfl rfl ty3 rfl<|gN rfl rfl<|qP rfl rfl rfl<|qA rfl<|Nl<|Wz ⟨.inl rfl,_,mt,Rc (Rt0 rfl) (Rv),aM,?_⟩
    exact ⟨rfl,rfl⟩
   ·
    repeat (refine Wq ?_)
    refine qW 75 82 rfl<|qM rfl<|qM rfl<|qD rfl rfl rfl<|qD rfl rfl rfl<|qD rfl rfl rfl<|qT rfl rfl rfl<|qA rfl<|Nl<|Wz ⟨.inl rfl,_,mt,Rc (Rt0 rfl) (Rv),aM,?_⟩
    exact ⟨rfl,rfl⟩
def nbF (e0 k5 k6 tin snd gr sol:Bool):Int:=if e0 then 6 else if !k5 && !k6 then 9 else if !tin then 8 else if !snd then 7 else if gr && (!k5 || !sol) then 5 else 0
def nbdV (r:Rl) (f:Fr) (p:Pk):Int:=nbF ((decR p).2 != 0) ((decR p).1.k == 135) ((decR p).1.k == 136) (in6 (decR p).1.tg) (sndV r f p (decR p).1) (grpE f.dst) (decide (f.dst=solM (decR p).1.tg))
structure PkG (p:Pk):Prop where
 bB:IsB p.bs
 s1:U64 p.s.hi
 s2:U64 p.s.lo
 d1:U64 p.d.hi
 d2:U64 p.d.lo
theorem dcP_g {b:List Int} (hB:IsB b):PkG (dcP b):=by
 obtain ⟨h1,h2,h3⟩:=dcP_ok b hB
 exact ⟨h1,h2.1,h2.2,h3.1,h3.2⟩
set_option maxHeartbeats 4000000 in
theorem nbE_any (r:Rl) (hr:RlG r) (f:Fr) (hf:FrX f) (p:Pk) (hp:PkG p):AFn Tryz.prog 66 0 [.agg (ruleC r),.agg (preC lan6),.agg (frC f),.agg (pkC p)] mt (.base (.int .i64 (nbdV r f p))) mt:=by
 refine AFn.eq Tryz.func66 rfl rfl (Nat.le_of_ble_eq_true rfl) ?_
 have hg:=grE_any f hf
 have hdec:=dec_any p hp.bB hp.s1 hp.s2 hp.d1 hp.d2
 have hln:=decR_len6 p
 have htg:=decR_tg (p:=p)
 have hsn:=sender_any r hr f hf p (decR p).1 hln
 have hcon:=fun h=>conE6 (decR p).1.tg h
 have hsol:=solE_any (decR p).1.tg
 have hsl:=solM_len (decR p).1.tg
 unfold nbdV
 unfold decV at hdec
 generalize decR p=D at *
 obtain ⟨n,e⟩:=D
 dsimp only at hdec hln htg hsn hcon hsol hsl ⊢
 generalize sndV r f p n=snd at *
 generalize grpE f.dst=gr at *
 obtain ⟨tin,htin⟩:∃ b,in6 n.tg=b:=⟨_,rfl⟩
 rw [htin] at hcon ⊢
 generalize solM n.tg=S at *
 obtain ⟨sol,hso⟩:∃ b,decide (f.dst=S)=b:=⟨_,rfl⟩
 rw [hso]
 obtain ⟨fd,fs,fv,ft,fx⟩:=f
 have p6:=hf.ok.d6
 have q6:=hf.ok.s6
 clear hf
 obtain ⟨r1,r2,r3,r4,r5,r6,r7,r8⟩:=r
 clear hr
 obtain ⟨k,fl,tg,has,ln⟩:=n
 obtain ⟨ps,pd,pp,pt,pbs⟩:=p
 clear hp
 dsimp only at p6 q6 hln hso hg htg hcon hsol hsn hdec ⊢
 obtain ⟨p0,p1,p2,p3,p4,p5,rfl⟩:=six_of p6
 obtain ⟨q0,q1,q2,q3,q4,q5,rfl⟩:=six_of q6
 obtain ⟨m0,m1,m2,m3,m4,m5,rfl⟩:=six_of hln
 obtain ⟨s0,s1,s2,s3,s4,s5,rfl⟩:=six_of hsl
 obtain ⟨t6,th,tl⟩:=tg
 obtain ⟨u6,uh,ul⟩:=ps
 obtain ⟨e6,eh,el⟩:=pd
 clear htin
 refine Wq<|qW 0 5 rfl<|qC rfl<|qC rfl<|qC rfl<|qC rfl<|qA rfl<|Nl<|Wq<|qW 9 17 rfl<|qG rfl ty83 rfl (Tl rfl)<|qY rfl (hdec) fok116 rfl<|qM rfl<|qX rfl<|qX rfl<|qB rfl ty87<|qS rfl ty87 (Sl rfl) rfl<|qA rfl<|Nl<|Wq<|Wb ?_
 by_cases he:e=0
 case' neg =>
  have k0:(e != 0)=true:=by simpa using he
  rw [k0]
  refine Wq<|qW 21 24 rfl<|qM rfl<|qN rfl<|qA rfl<|Nl<|Wt rfl ‹_›<|Wq<|qW 28 29 rfl<|qA rfl<|Nl<|Wz ⟨.inl rfl,_,mt,Rc (Rt0 rfl) (Rv),aM,?_⟩
  exact ⟨rfl,rfl⟩
 case' pos =>
  subst he
  refine Wq<|qW 21 24 rfl<|qM rfl<|qN rfl<|qA rfl<|Nl<|Wo rfl (rfl) ?_
  by_cases hk:k=135∨k=136
  case' neg =>
   have k1:(k != 135)=true:=by simp;omega
   have k2:(k != 136)=true:=by simp;omega
   have k3:(k == 135)=false:=by simp;omega
   have k4:(k == 136)=false:=by simp;omega
   rw [k3,k4]
   refine Wq<|qW 33 42 rfl<|qF rfl ty87 rfl<|qL rfl ty3 rfl<|qN rfl<|qM rfl<|gF rfl ‹_› ty87 rfl<|gL rfl ‹_› ty3 rfl<|gN rfl ‹_›<|qT rfl ‹_› rfl<|qA rfl<|Nl<|Wt rfl ‹_›<|Wq<|qW 46 47 rfl<|qA rfl<|Nl<|Wz ⟨.inl rfl,_,mt,Rc (Rt0 rfl) (Rv),aM,?_⟩
   exact ⟨rfl,rfl⟩
  case' pos =>
   obtain ⟨v1,v2,v3⟩:=htg rfl hk
   have hc:=hcon v1 v2 v3
   clear htg hcon
   rcases hk with rfl|rfl
   all_goals
    repeat (refine Wq ?_)
    refine qW 33 42 rfl<|qF rfl ty87 rfl<|qL rfl ty3 rfl<|qN rfl<|qM rfl ?_
    first
     | (refine RW.sd rfl rfl rfl ?_ rfl ?_;(· (first|rfl|assumption)))
     | (refine RW.gd rfl rfl rfl ?_ rfl (LO.fieldAddr rfl rfl ty87 rfl (by decide)) ?_;(· (first|rfl|assumption)))
    first
     | (refine RW.sd rfl rfl rfl ?_ rfl ?_;(· (first|rfl|assumption)))
     | (refine RW.gd rfl rfl rfl ?_ rfl (LO.load rfl rfl rfl rfl ty3 rfl) ?_;(· (first|rfl|assumption)))
    first
     | (refine RW.sd rfl rfl rfl ?_ rfl ?_;(· (first|rfl|assumption)))
     | (refine RW.gd rfl rfl rfl ?_ rfl (LO.neq rfl rfl rfl) ?_;(· (first|rfl|assumption)))
    first
     | (refine RW.opd rfl rfl (LO.pick_t rfl rfl ?_ rfl) ?_;(· (first|rfl|assumption)))
     | (refine RW.opd rfl rfl (LO.pick_f rfl rfl ?_ rfl) ?_;(· (first|rfl|assumption)))
    refine qA rfl<|Nl<|Wo rfl rfl ?_
    cases tin
    case' false =>
     repeat (refine Wq ?_)
     refine qW 51 57 rfl<|qG rfl ty56 rfl (Tl rfl)<|qF rfl ty87 rfl<|qG rfl ty54 rfl (Tl rfl)<|qY rfl (hc) fok113 rfl<|qO rfl<|qA rfl<|Nl<|Wt rfl rfl ?_
     repeat (refine Wq ?_)
     refine qW 61 62 rfl<|qA rfl<|Nl<|Wz ⟨.inl rfl,_,mt,Rc (Rt0 rfl) (Rv),aM,?_⟩
     exact ⟨rfl,rfl⟩
    case' true =>
     repeat (refine Wq ?_)
     refine qW 51 57 rfl<|qG rfl ty56 rfl (Tl rfl)<|qF rfl ty87 rfl<|qG rfl ty54 rfl (Tl rfl)<|qY rfl (hc) fok113 rfl<|qO rfl<|qA rfl<|Nl<|Wo rfl rfl ?_
     cases snd
     case' false =>
      repeat (refine Wq ?_)
      refine qW 66 73 rfl<|qG rfl ty39 rfl (Tl rfl)<|qG rfl ty26 rfl (Tl rfl)<|qG rfl ty83 rfl (Tl rfl)<|qG rfl ty87 rfl (Tl rfl)<|qY rfl (hsn) fok117 rfl<|qO rfl<|qA rfl<|Nl<|Wt rfl rfl ?_
      repeat (refine Wq ?_)
      refine qW 77 78 rfl<|qA rfl<|Nl<|Wz ⟨.inl rfl,_,mt,Rc (Rt0 rfl) (Rv),aM,?_⟩
      exact ⟨rfl,rfl⟩
     case' true =>
      repeat (refine Wq ?_)
      refine qW 66 73 rfl<|qG rfl ty39 rfl (Tl rfl)<|qG rfl ty26 rfl (Tl rfl)<|qG rfl ty83 rfl (Tl rfl)<|qG rfl ty87 rfl (Tl rfl)<|qY rfl (hsn) fok117 rfl<|qO rfl<|qA rfl<|Nl<|Wo rfl rfl ?_
   ·
    cases gr
    ·
     refine Wq<|Wd 82 98 (by decide) rfl mixed rfl<|qG rfl ty26 rfl (Tl rfl)<|qY rfl (hg) fok34 rfl<|qM rfl<|qD rfl rfl rfl<|qD rfl rfl rfl<|qD rfl rfl rfl<|qD rfl rfl rfl<|Ud rfl rfl rfl rfl<|Ud rfl rfl rfl rfl<|Ud rfl rfl rfl rfl<|Ud rfl rfl rfl rfl<|Ud rfl rfl rfl rfl<|Ud rfl rfl rfl rfl<|qD rfl rfl rfl<|qP rfl rfl rfl<|qA rfl<|Nl ⟨by kernel_rfl,(Wo rfl rfl<|Wu<|Wq<|qW 107 108 rfl<|qA rfl<|Nl<|Wz ⟨.inl rfl,_,mt,Rc (Rt0 rfl) (Rv),aM,?_⟩)⟩
     exact ⟨rfl,rfl⟩
    ·
     cases sol
     ·
      refine Wq<|Wd 82 98 (by decide) rfl mixed rfl<|qG rfl ty26 rfl (Tl rfl)<|qY rfl (hg) fok34 rfl<|qM rfl<|gF rfl rfl ty87 rfl<|gL rfl rfl ty3 rfl<|gN rfl rfl<|gM rfl rfl<|gF rfl rfl ty26 rfl<|gG rfl rfl ty23 rfl (Tl rfl)<|gF rfl rfl ty87 rfl<|gG rfl rfl ty54 rfl (Tl rfl)<|gY rfl rfl (hsol) fok118 rfl<|qU rfl rfl rfl (LO.neq_mac_b [p0,p1,p2,p3,p4,p5] [s0,s1,s2,s3,s4,s5] hso rfl rfl rfl rfl rfl)<|qU rfl rfl rfl (Pf0 rfl rfl rfl rfl)<|qT rfl rfl rfl<|qA rfl<|Nl ⟨by kernel_rfl,(Wt rfl rfl<|Wq<|qW 102 103 rfl<|qA rfl<|Nl<|Wz ⟨.inl rfl,_,mt,Rc (Rt0 rfl) (Rv),aM,?_⟩)⟩
      exact ⟨rfl,rfl⟩
     ·
      refine Wq<|Wd 82 98 (by decide) rfl mixed rfl<|qG rfl ty26 rfl (Tl rfl)<|qY rfl (hg) fok34 rfl<|qM rfl<|gF rfl rfl ty87 rfl<|gL rfl rfl ty3 rfl<|gN rfl rfl<|gM rfl rfl<|gF rfl rfl ty26 rfl<|gG rfl rfl ty23 rfl (Tl rfl)<|gF rfl rfl ty87 rfl<|gG rfl rfl ty54 rfl (Tl rfl)<|gY rfl rfl (hsol) fok118 rfl<|qU rfl rfl rfl (LO.neq_mac_b [p0,p1,p2,p3,p4,p5] [s0,s1,s2,s3,s4,s5] hso rfl rfl rfl rfl rfl)<|qU rfl rfl rfl (Pf0 rfl rfl rfl rfl)<|qT rfl rfl rfl<|qA rfl<|Nl ⟨by kernel_rfl,(Wo rfl rfl<|Wu<|Wq<|qW 107 108 rfl<|qA rfl<|Nl<|Wz ⟨.inl rfl,_,mt,Rc (Rt0 rfl) (Rv),aM,?_⟩)⟩
      exact ⟨rfl,rfl⟩
   ·
    cases gr
    ·
     refine Wq<|Wd 82 98 (by decide) rfl mixed rfl<|qG rfl ty26 rfl (Tl rfl)<|qY rfl (hg) fok34 rfl<|qM rfl<|qD rfl rfl rfl<|qD rfl rfl rfl<|qD rfl rfl rfl<|qD rfl rfl rfl<|Ud rfl rfl rfl rfl<|Ud rfl rfl rfl rfl<|Ud rfl rfl rfl rfl<|Ud rfl rfl rfl rfl<|Ud rfl rfl rfl rfl<|Ud rfl rfl rfl rfl<|qD rfl rfl rfl<|qP rfl rfl rfl<|qA rfl<|Nl ⟨by kernel_rfl,(Wo rfl rfl<|Wu<|Wq<|qW 107 108 rfl<|qA rfl<|Nl<|Wz ⟨.inl rfl,_,mt,Rc (Rt0 rfl) (Rv),aM,?_⟩)⟩
     exact ⟨rfl,rfl⟩
    ·
     refine Wq<|Wd 82 98 (by decide) rfl mixed rfl<|qG rfl ty26 rfl (Tl rfl)<|qY rfl (hg) fok34 rfl<|qM rfl<|gF rfl rfl ty87 rfl<|gL rfl rfl ty3 rfl<|gN rfl rfl<|gM rfl rfl<|qD rfl rfl rfl<|qD rfl rfl rfl<|qD rfl rfl rfl<|qD rfl rfl rfl<|qD rfl rfl rfl<|qD rfl rfl rfl<|qU rfl rfl rfl (Pt rfl rfl rfl rfl)<|qT rfl rfl rfl<|qA rfl<|Nl ⟨by kernel_rfl,(Wt rfl rfl<|Wq<|qW 102 103 rfl<|qA rfl<|Nl<|Wz ⟨.inl rfl,_,mt,Rc (Rt0 rfl) (Rv),aM,?_⟩)⟩
     exact ⟨rfl,rfl⟩
def dscF (b:List Int):Bool:=dcE b == 0 && ((dcP b).p == 58 && (decide (0 < (dcP b).bs.length) && (decide (133≤gB (dcP b).bs 0) && decide (gB (dcP b).bs 0≤137))))
theorem dsc_cases (b:List Int):(dcE b≠0∧dscF b=false)∨(dcE b=0∧((dcP b).p == 58)=false∧dscF b=false)∨(dcE b=0∧((dcP b).p == 58)=true∧(dcP b).bs.length=0∧dscF b=false) ∨
 (dcE b=0∧((dcP b).p == 58)=true∧0 < (dcP b).bs.length∧gB (dcP b).bs 0 < 133∧dscF b=false)∨(dcE b=0∧((dcP b).p == 58)=true∧0 < (dcP b).bs.length∧137 < gB (dcP b).bs 0∧dscF b=false) ∨
 (dcE b=0∧((dcP b).p == 58)=true∧0 < (dcP b).bs.length∧(133≤gB (dcP b).bs 0∧gB (dcP b).bs 0≤137)∧dscF b=true):=by
 unfold dscF
 by_cases h1:dcE b=0
 ·by_cases h2:(dcP b).p=58
  ·by_cases h3:(dcP b).bs.length=0
   ·exact .inr (.inr (.inl ⟨h1,by simpa using h2,h3,by simp [h1,h2,h3]⟩))
   ·have h3':0 < (dcP b).bs.length:=by omega
    by_cases h4:gB (dcP b).bs 0 < 133
    ·exact .inr (.inr (.inr (.inl ⟨h1,by simpa using h2,h3',h4,by simp [h1,h2,h3'];omega⟩)))
    ·by_cases h5:137 < gB (dcP b).bs 0
     ·exact .inr (.inr (.inr (.inr (.inl ⟨h1,by simpa using h2,h3',h5,by simp [h1,h2,h3'];omega⟩))))
     ·exact .inr (.inr (.inr (.inr (.inr ⟨h1,by simpa using h2,h3',⟨by omega,by omega⟩,by simp [h1,h2,h3'];omega⟩))))
  ·exact .inr (.inl ⟨h1,by simpa using h2,by simp [h2]⟩)
 ·exact .inl ⟨h1,by simp [h1]⟩
set_option maxHeartbeats 4000000 in
theorem dscE_any (f:Fr) (hf:FrX f):AFn Tryz.prog 65 0 [.agg (frC f)] mt (.tup [.agg (pkC (if dscF f.data then dcP f.data else zPk)),.base (.bool (dscF f.data))]) mt:=by
 refine AFn.eq Tryz.func65 rfl rfl (Nat.le_of_ble_eq_true rfl) ?_
 have hpd:=pdec_any f.data hf.ok.bB (by have:=hf.ok.bl;omega)
 have hcs:=dsc_cases f.data
 have hbB:=(dcP_g hf.ok.bB).bB
 generalize dscF f.data=ds at *
 generalize dcP f.data=P at *
 generalize dcE f.data=pe at *
 have b0:=hbB.at 0
 obtain ⟨fd,fs,fv,ft,fx⟩:=f
 have p6:=hf.ok.d6
 have q6:=hf.ok.s6
 clear hf
 dsimp only at p6 q6 hpd
 obtain ⟨p0,p1,p2,p3,p4,p5,rfl⟩:=six_of p6
 obtain ⟨q0,q1,q2,q3,q4,q5,rfl⟩:=six_of q6
 refine Wq<|qW 0 3 rfl<|qC rfl<|qB rfl ty83<|qA rfl<|Nl ?_
 rcases hcs with ⟨h1,rfl⟩|⟨rfl,h2,rfl⟩|⟨rfl,h2,h3,rfl⟩|⟨rfl,h2,h3,h4,rfl⟩|⟨rfl,h2,h3,h4,rfl⟩|⟨rfl,h2,h3,h4,rfl⟩
 case' inl =>
  have k1:(pe != 0)=true:=by simpa using h1
  rw [rdV_bad h1] at hpd
  refine Wq<|qW 7 16 rfl<|qF rfl ty26 rfl<|qL rfl ty24 rfl<|qY rfl (hpd) fok115 rfl<|qM rfl<|qX rfl<|qX rfl<|qB rfl ty83<|qS rfl ty83 (Sl rfl) rfl<|qA rfl<|Nl ?_
 case' inr.inl =>
  have k1:(0 != 0)=false:=rfl
  have k2:(P.p != 58)=true:=by simp at h2;simpa using h2
  rw [rdV_ok] at hpd
  refine Wq<|qW 7 16 rfl<|qF rfl ty26 rfl<|qL rfl ty24 rfl<|qY rfl (hpd) fok115 rfl<|qM rfl<|qX rfl<|qX rfl<|qB rfl ty83<|qS rfl ty83 (Sl rfl) rfl<|qA rfl<|Nl ?_
 case' inr.inr.inl =>
  have k2:(P.p != 58)=false:=by simp at h2;simpa using h2
  have k3:((P.bs.length:Int) == 0)=true:=by rw [h3];rfl
  rw [rdV_ok] at hpd
  refine Wq<|qW 7 16 rfl<|qF rfl ty26 rfl<|qL rfl ty24 rfl<|qY rfl (hpd) fok115 rfl<|qM rfl<|qX rfl<|qX rfl<|qB rfl ty83<|qS rfl ty83 (Sl rfl) rfl<|qA rfl<|Nl ?_
 case' inr.inr.inr.inl =>
  have k2:(P.p != 58)=false:=by simp at h2;simpa using h2
  have k3:((P.bs.length:Int) == 0)=false:=by rw [beq_eq_false_iff_ne];omega
  have k4:decide (gB P.bs 0 < 133)=true:=decide_eq_true h4
  rw [rdV_ok] at hpd
  refine Wq<|qW 7 16 rfl<|qF rfl ty26 rfl<|qL rfl ty24 rfl<|qY rfl (hpd) fok115 rfl<|qM rfl<|qX rfl<|qX rfl<|qB rfl ty83<|qS rfl ty83 (Sl rfl) rfl<|qA rfl<|Nl ?_
 case' inr.inr.inr.inr.inl =>
  have k2:(P.p != 58)=false:=by simp at h2;simpa using h2
  have k3:((P.bs.length:Int) == 0)=false:=by rw [beq_eq_false_iff_ne];omega
  have k4:decide (gB P.bs 0 < 133)=false:=decide_eq_false (by omega)
  have k5:decide (137 < gB P.bs 0)=true:=decide_eq_true h4
  rw [rdV_ok] at hpd
  refine Wq<|qW 7 16 rfl<|qF rfl ty26 rfl<|qL rfl ty24 rfl<|qY rfl (hpd) fok115 rfl<|qM rfl<|qX rfl<|qX rfl<|qB rfl ty83<|qS rfl ty83 (Sl rfl) rfl<|qA rfl<|Nl ?_
 case' inr.inr.inr.inr.inr =>
  have k2:(P.p != 58)=false:=by simp at h2;simpa using h2
  have k3:((P.bs.length:Int) == 0)=false:=by rw [beq_eq_false_iff_ne];omega
  have k4:decide (gB P.bs 0 < 133)=false:=decide_eq_false (by omega)
  have k5:decide (137 < gB P.bs 0)=false:=decide_eq_false (by omega)
  rw [rdV_ok] at hpd
  refine Wq<|qW 7 16 rfl<|qF rfl ty26 rfl<|qL rfl ty24 rfl<|qY rfl (hpd) fok115 rfl<|qM rfl<|qX rfl<|qX rfl<|qB rfl ty83<|qS rfl ty83 (Sl rfl) rfl<|qA rfl<|Nl<|Wq<|Wq<|qW 20 47 rfl<|qM rfl<|qN rfl<|qM rfl<|gF rfl rfl ty83 rfl<|gL rfl rfl ty3 rfl<|gN rfl rfl<|qP rfl rfl rfl<|qM rfl<|gF rfl ‹_› ty83 rfl<|gL rfl ‹_› ty24 rfl<|gH rfl ‹_› ty24<|gE rfl ‹_›<|qP rfl ‹_› rfl<|qM rfl<|gF rfl ‹_› ty83 rfl<|gL rfl ‹_› ty24 rfl<|qU rfl ‹_› rfl (Ii rfl rfl rfl rfl rfl ty24 ty5 (by omega))<|qU rfl ‹_› rfl (Li rfl rfl (by_at (by omega)) ty5 rfl)<|gK rfl ‹_›<|qP rfl ‹_› rfl<|qM rfl<|gF rfl ‹_› ty83 rfl<|gL rfl ‹_› ty24 rfl<|qU rfl ‹_› rfl (Ii rfl rfl rfl rfl rfl ty24 ty5 (by omega))<|qU rfl ‹_› rfl (Li rfl rfl (by_at (by omega)) ty5 rfl)<|gGt rfl ‹_›<|qP rfl ‹_› rfl<|Nl<|Wo rfl ‹_›<|Wu<|Wq<|qW 58 61 rfl<|qG rfl ty83 rfl (Tl rfl)<|qS rfl ty83 (Sl rfl) rfl<|qA rfl<|Nl<|Wz ⟨.inl rfl,_,mt,(Rc (Ra0 rfl rfl ty83 rfl (Tl rfl)) (Rc (Rt0 rfl) Rv)),aM,?_⟩
  exact ⟨rfl,rfl⟩
 all_goals
  repeat (refine Wq ?_)
  refine qW 20 47 rfl<|qM rfl<|qN rfl<|qM rfl ?_
  first
   | (refine RW.sd rfl rfl rfl ?_ rfl ?_;(· (first|rfl|assumption)))
   | (refine RW.gd rfl rfl rfl ?_ rfl (LO.fieldAddr rfl rfl ty83 rfl (by decide)) ?_;(· (first|rfl|assumption)))
  first
   | (refine RW.sd rfl rfl rfl ?_ rfl ?_;(· (first|rfl|assumption)))
   | (refine RW.gd rfl rfl rfl ?_ rfl (LO.load rfl rfl rfl rfl ty3 rfl) ?_;(· (first|rfl|assumption)))
  first
   | (refine RW.sd rfl rfl rfl ?_ rfl ?_;(· (first|rfl|assumption)))
   | (refine RW.gd rfl rfl rfl ?_ rfl (LO.neq rfl rfl rfl) ?_;(· (first|rfl|assumption)))
  first
   | (refine RW.opd rfl rfl (LO.pick_t rfl rfl ?_ rfl) ?_;(· (first|rfl|assumption)))
   | (refine RW.opd rfl rfl (LO.pick_f rfl rfl ?_ rfl) ?_;(· (first|rfl|assumption)))
  refine qM rfl ?_
  first
   | (refine RW.sd rfl rfl rfl ?_ rfl ?_;(· (first|rfl|assumption)))
   | (refine RW.gd rfl rfl rfl ?_ rfl (LO.fieldAddr rfl rfl ty83 rfl (by decide)) ?_;(· (first|rfl|assumption)))
  first
   | (refine RW.sd rfl rfl rfl ?_ rfl ?_;(· (first|rfl|assumption)))
   | (refine RW.gd rfl rfl rfl ?_ rfl (LO.load rfl rfl rfl rfl ty24 rfl) ?_;(· (first|rfl|assumption)))
  first
   | (refine RW.sd rfl rfl rfl ?_ rfl ?_;(· (first|rfl|assumption)))
   | (refine RW.gd rfl rfl rfl ?_ rfl (LO.len_isl rfl rfl rfl ty24) ?_;(· (first|rfl|assumption)))
  first
   | (refine RW.sd rfl rfl rfl ?_ rfl ?_;(· (first|rfl|assumption)))
   | (refine RW.gd rfl rfl rfl ?_ rfl (LO.eql rfl rfl rfl) ?_;(· (first|rfl|assumption)))
  first
   | (refine RW.opd rfl rfl (LO.pick_t rfl rfl ?_ rfl) ?_;(· (first|rfl|assumption)))
   | (refine RW.opd rfl rfl (LO.pick_f rfl rfl ?_ rfl) ?_;(· (first|rfl|assumption)))
  refine qM rfl ?_
  first
   | (refine RW.sd rfl rfl rfl ?_ rfl ?_;(· (first|rfl|assumption)))
   | (refine RW.gd rfl rfl rfl ?_ rfl (LO.fieldAddr rfl rfl ty83 rfl (by decide)) ?_;(· (first|rfl|assumption)))
  first
   | (refine RW.sd rfl rfl rfl ?_ rfl ?_;(· (first|rfl|assumption)))
   | (refine RW.gd rfl rfl rfl ?_ rfl (LO.load rfl rfl rfl rfl ty24 rfl) ?_;(· (first|rfl|assumption)))
  first
   | (refine RW.sd rfl rfl rfl ?_ rfl ?_;(· (first|rfl|assumption)))
   | (refine RW.gd rfl rfl rfl ?_ rfl (LO.indexAddr_isl rfl rfl rfl rfl rfl ty24 ty5 ?_) ?_;(· (first|rfl|assumption));(· (first|omega|decide|assumption|fail|(simp;done)|(simp;omega))))
  first
   | (refine RW.sd rfl rfl rfl ?_ rfl ?_;(· (first|rfl|assumption)))
   | (refine RW.gd rfl rfl rfl ?_ rfl (LO.load_imm rfl rfl (by_at (by omega)) ty5 rfl) ?_;(· (first|rfl|assumption)))
  first
   | (refine RW.sd rfl rfl rfl ?_ rfl ?_;(· (first|rfl|assumption)))
   | (refine RW.gd rfl rfl rfl ?_ rfl (LO.lss rfl rfl rfl) ?_;(· (first|rfl|assumption)))
  first
   | (refine RW.opd rfl rfl (LO.pick_t rfl rfl ?_ rfl) ?_;(· (first|rfl|assumption)))
   | (refine RW.opd rfl rfl (LO.pick_f rfl rfl ?_ rfl) ?_;(· (first|rfl|assumption)))
  refine qM rfl ?_
  first
   | (refine RW.sd rfl rfl rfl ?_ rfl ?_;(· (first|rfl|assumption)))
   | (refine RW.gd rfl rfl rfl ?_ rfl (LO.fieldAddr rfl rfl ty83 rfl (by decide)) ?_;(· (first|rfl|assumption)))
  first
   | (refine RW.sd rfl rfl rfl ?_ rfl ?_;(· (first|rfl|assumption)))
   | (refine RW.gd rfl rfl rfl ?_ rfl (LO.load rfl rfl rfl rfl ty24 rfl) ?_;(· (first|rfl|assumption)))
  first
   | (refine RW.sd rfl rfl rfl ?_ rfl ?_;(· (first|rfl|assumption)))
   | (refine RW.gd rfl rfl rfl ?_ rfl (LO.indexAddr_isl rfl rfl rfl rfl rfl ty24 ty5 ?_) ?_;(· (first|rfl|assumption));(· (first|omega|decide|assumption|fail|(simp;done)|(simp;omega))))
  first
   | (refine RW.sd rfl rfl rfl ?_ rfl ?_;(· (first|rfl|assumption)))
   | (refine RW.gd rfl rfl rfl ?_ rfl (LO.load_imm rfl rfl (by_at (by omega)) ty5 rfl) ?_;(· (first|rfl|assumption)))
  first
   | (refine RW.sd rfl rfl rfl ?_ rfl ?_;(· (first|rfl|assumption)))
   | (refine RW.gd rfl rfl rfl ?_ rfl (LO.gtr rfl rfl rfl) ?_;(· (first|rfl|assumption)))
  first
   | (refine RW.opd rfl rfl (LO.pick_t rfl rfl ?_ rfl) ?_;(· (first|rfl|assumption)))
   | (refine RW.opd rfl rfl (LO.pick_f rfl rfl ?_ rfl) ?_;(· (first|rfl|assumption)))
  refine Nl<|Wt rfl (by first|rfl|assumption) ?_
  repeat (refine Wq ?_)
  refine qW 51 54 rfl<|Od rfl rfl (Bs rfl ty83 .nil)<|qS rfl ty83 (Sl rfl) rfl<|qA rfl<|Nl<|W.nilc (q:=1) (j:=8) rfl rfl (Sl rfl)<|Wz ⟨.inl rfl,_,mt,(Rc (Ra0 rfl rfl ty83 rfl (Tl rfl)) (Rc (Rt0 rfl) Rv)),aM,?_⟩
  exact ⟨rfl,rfl⟩
def chqB (big own res tag arp v4 v6 dsc:Bool) (rv nv pv:Int):Int:=if big then 11 else if !own then 1 else if res then 2 else if tag then 3 else if arp then rv else if v4 then pv else if v6 then (if dsc then nv else pv) else 4
def chqV (r:Rl) (f:Fr):Int:=chqB (decide ((1500:Int) < (f.data.length:Int))) (decide (f.src∈r.macs)) (resM f.dst) (f.vl != 0) (f.ty == 2054) (f.ty == 2048) (f.ty == 34525) (dscF f.data) (resolV r f) (nbdV r f (dcP f.data)) (plainF (decide (f.dst=bcM)) (grpE f.dst))
theorem ty_cases (t:Int):((t == 2054)=true∧(t == 2048)=false∧(t == 34525)=false∧t=2054)∨((t == 2054)=false∧(t == 2048)=true∧(t == 34525)=false∧t=2048)∨((t == 2054)=false∧(t == 2048)=false∧(t == 34525)=true∧t=34525)∨((t == 2054)=false∧(t == 2048)=false∧(t == 34525)=false∧(t != 2054)=true∧(t != 2048)=true∧(t != 34525)=true):=by
 by_cases h1:t=2054
 ·subst h1;exact .inl ⟨rfl,rfl,rfl,rfl⟩
 ·by_cases h2:t=2048
  ·subst h2;exact .inr (.inl ⟨rfl,rfl,rfl,rfl⟩)
  ·by_cases h3:t=34525
   ·subst h3;exact .inr (.inr (.inl ⟨rfl,rfl,rfl,rfl⟩))
   ·exact .inr (.inr (.inr ⟨by simpa using h1,by simpa using h2,by simpa using h3,by simpa using h1,by simpa using h2,by simpa using h3⟩))
set_option maxHeartbeats 4000000 in
theorem fchE_any (r:Rl) (hr:RlG r) (f:Fr) (hf:FrX f):AFn Tryz.prog 26 0 [.agg (ruleC r),.agg (preC lan4),.agg (preC lan6),.agg (frC f)] mt (.base (.int .i64 (chqV r f))) mt:=by
 refine AFn.eq Tryz.func26 rfl rfl (Nat.le_of_ble_eq_true rfl) ?_
 have hown:=hasM_any r.macs f.src hr.macs hf.ok.s6 hr.nm
 have hres:=resE_any f.dst hf.ok.d6
 have hrsl:=resolE_any r hr f hf
 have hpl:=plainE_any f hf
 have hds:=dscE_any f hf
 have hnb:=nbE_any r hr f hf (dcP f.data) (dcP_g hf.ok.bB)
 have hty:=ty_cases f.ty
 unfold chqV
 generalize nbdV r f (dcP f.data)=nv at *
 generalize resolV r f=rv at *
 generalize plainF (decide (f.dst=bcM)) (grpE f.dst)=pv at *
 generalize dcP f.data=P at *
 generalize dscF f.data=ds at *
 generalize resM f.dst=res at *
 generalize decide (f.src∈r.macs)=own at *
 obtain ⟨big,hbig⟩:∃ b,decide ((1500:Int) < (f.data.length:Int))=b:=⟨_,rfl⟩
 obtain ⟨tag,htag⟩:∃ b,(f.vl != 0)=b:=⟨_,rfl⟩
 rw [hbig,htag]
 obtain ⟨fd,fs,fv,ft,fx⟩:=f
 have p6:=hf.ok.d6
 have q6:=hf.ok.s6
 clear hf
 obtain ⟨r1,r2,r3,r4,r5,r6,r7,r8⟩:=r
 clear hr
 dsimp only at p6 q6 hown hres hrsl hpl hds hnb hty hbig htag ⊢
 obtain ⟨p0,p1,p2,p3,p4,p5,rfl⟩:=six_of p6
 obtain ⟨q0,q1,q2,q3,q4,q5,rfl⟩:=six_of q6
 obtain ⟨ps,pd,pp,pt,pbs⟩:=P
 refine Wq<|qW 0 5 rfl<|qC rfl<|qC rfl<|qC rfl<|qC rfl<|qA rfl<|Nl<|Wq<|Wb ?_
 cases big
 case' true =>
  refine Wq<|qW 9 14 rfl<|qF rfl ty26 rfl<|qL rfl ty24 rfl<|qH rfl ty24<|qGt rfl<|qA rfl<|Nl<|Wt rfl ‹_›<|Wq<|qW 18 19 rfl<|qA rfl<|Nl<|Wz ⟨.inl rfl,_,mt,Rc (Rt0 rfl) (Rv),aM,?_⟩
  exact ⟨rfl,rfl⟩
 case' false =>
  refine Wq<|qW 9 14 rfl<|qF rfl ty26 rfl<|qL rfl ty24 rfl<|qH rfl ty24<|qGt rfl<|qA rfl<|Nl<|Wo rfl ‹_› ?_
  cases own
  case' false =>
   refine Wq<|qW 23 30 rfl<|qF rfl ty39 rfl<|qL rfl ty36 rfl<|qF rfl ty26 rfl<|qG rfl ty23 rfl (Tl rfl)<|qY rfl (hown) fok61 rfl<|qO rfl<|qA rfl<|Nl<|Wt rfl rfl<|Wq<|qW 34 35 rfl<|qA rfl<|Nl<|Wz ⟨.inl rfl,_,mt,Rc (Rt0 rfl) (Rv),aM,?_⟩
   exact ⟨rfl,rfl⟩
  case' true =>
   refine Wq<|qW 23 30 rfl<|qF rfl ty39 rfl<|qL rfl ty36 rfl<|qF rfl ty26 rfl<|qG rfl ty23 rfl (Tl rfl)<|qY rfl (hown) fok61 rfl<|qO rfl<|qA rfl<|Nl<|Wo rfl rfl ?_
   cases res
   case' true =>
    refine Wq<|qW 39 43 rfl<|qF rfl ty26 rfl<|qG rfl ty23 rfl (Tl rfl)<|qY rfl (hres) fok62 rfl<|qA rfl<|Nl<|Wt rfl rfl<|Wq<|qW 47 48 rfl<|qA rfl<|Nl<|Wz ⟨.inl rfl,_,mt,Rc (Rt0 rfl) (Rv),aM,?_⟩
    exact ⟨rfl,rfl⟩
   case' false =>
    refine Wq<|qW 39 43 rfl<|qF rfl ty26 rfl<|qG rfl ty23 rfl (Tl rfl)<|qY rfl (hres) fok62 rfl<|qA rfl<|Nl<|Wo rfl rfl ?_
    cases tag
    case' true =>
     refine Wq<|qW 52 56 rfl<|qF rfl ty26 rfl<|qL rfl ty3 rfl<|qN rfl<|qA rfl<|Nl<|Wt rfl ‹_›<|Wq<|qW 60 61 rfl<|qA rfl<|Nl<|Wz ⟨.inl rfl,_,mt,Rc (Rt0 rfl) (Rv),aM,?_⟩
     exact ⟨rfl,rfl⟩
    case' false =>
     refine Wq<|qW 52 56 rfl<|qF rfl ty26 rfl<|qL rfl ty3 rfl<|qN rfl<|qA rfl<|Nl<|Wo rfl ‹_›<|Wu<|Wq<|Wq<|qW 65 67 rfl<|qF rfl ty26 rfl<|qL rfl ty3 rfl<|Nl<|Wb ?_
     rcases hty with ⟨k1,k2,k3,rfl⟩|⟨k1,k2,k3,rfl⟩|⟨k1,k2,k3,rfl⟩|⟨k1,k2,k3,_⟩
     ·
      refine Wq<|qW 71 73 rfl<|qE rfl<|qA rfl<|Nl<|Wt rfl rfl<|Wq<|qW 77 82 rfl<|qG rfl ty39 rfl (Tl rfl)<|qG rfl ty56 rfl (Tl rfl)<|qG rfl ty26 rfl (Tl rfl)<|qY rfl (hrsl) fok63 rfl<|qA rfl<|Nl<|Wz ⟨.inl rfl,_,mt,Rc (Rt0 rfl) (Rv),aM,?_⟩
      exact ⟨rfl,rfl⟩
     ·
      refine Wq<|qW 71 73 rfl<|qE rfl<|qA rfl<|Nl<|Wo rfl rfl<|Wq<|qW 86 88 rfl<|qE rfl<|qA rfl<|Nl<|Wt rfl rfl<|Wq<|qW 92 95 rfl<|qG rfl ty26 rfl (Tl rfl)<|qY rfl (hpl) fok64 rfl<|qA rfl<|Nl<|Wz ⟨.inl rfl,_,mt,Rc (Rt0 rfl) (Rv),aM,?_⟩
      exact ⟨rfl,rfl⟩
     ·
      refine Wq<|qW 71 73 rfl<|qE rfl<|qA rfl<|Nl<|Wo rfl rfl<|Wq<|qW 86 88 rfl<|qE rfl<|qA rfl<|Nl<|Wo rfl rfl<|Wq<|qW 99 101 rfl<|qE rfl<|qA rfl<|Nl<|Wt rfl rfl ?_
      cases ds
      ·
       refine Wq<|Wq<|qW 105 113 rfl<|qG rfl ty26 rfl (Tl rfl)<|qY rfl (hds) fok65 rfl<|qM rfl<|qX rfl<|qX rfl<|qB rfl ty83<|qS rfl ty83 (Sl rfl) rfl<|qA rfl<|Nl<|Wq<|qW 117 118 rfl<|qM rfl<|Nl<|Wo rfl rfl<|Wu<|Wq<|qW 132 135 rfl<|qG rfl ty26 rfl (Tl rfl)<|qY rfl (hpl) fok64 rfl<|qA rfl<|Nl<|Wz ⟨.inl rfl,_,mt,Rc (Rt0 rfl) (Rv),aM,?_⟩
       exact ⟨rfl,rfl⟩
      ·
       refine Wq<|Wq<|qW 105 113 rfl<|qG rfl ty26 rfl (Tl rfl)<|qY rfl (hds) fok65 rfl<|qM rfl<|qX rfl<|qX rfl<|qB rfl ty83<|qS rfl ty83 (Sl rfl) rfl<|qA rfl<|Nl<|Wq<|qW 117 118 rfl<|qM rfl<|Nl<|Wt rfl rfl<|Wq<|qW 122 128 rfl<|qG rfl ty39 rfl (Tl rfl)<|qG rfl ty56 rfl (Tl rfl)<|qG rfl ty26 rfl (Tl rfl)<|qG rfl ty83 rfl (Tl rfl)<|qY rfl (hnb) fok66 rfl<|qA rfl<|Nl<|Wz ⟨.inl rfl,_,mt,Rc (Rt0 rfl) (Rv),aM,?_⟩
       exact ⟨rfl,rfl⟩
     ·
      rw [k1,k2,k3]
      refine Wq<|qW 71 73 rfl<|qE rfl<|qA rfl<|Nl<|Wo rfl ‹_›<|Wq<|qW 86 88 rfl<|qE rfl<|qA rfl<|Nl<|Wo rfl ‹_›<|Wq<|qW 99 101 rfl<|qE rfl<|qA rfl<|Nl<|Wo rfl ‹_›<|Wu<|Wq<|qW 139 140 rfl<|qA rfl<|Nl<|Wz ⟨.inl rfl,_,mt,Rc (Rt0 rfl) (Rv),aM,?_⟩
      exact ⟨rfl,rfl⟩
end Go.Proofs.YtlcndmciognneaaGreatDoor
namespace Go.Proofs.YtlcndmciognneaaGreatDoor
structure Lnk where
 a:Int
 b:Int
 c:Int
structure Fab where
 sw:Int
 links:List Lnk
 down:List Bool
 dead:List Bool
def aliveB (f:Fab) (s:Int):Bool:=decide (0≤s) && (decide (s < f.dead.length) && !(f.dead.getD s.toNat true))
def worksB (f:Fab) (k:Int):Bool:=decide (0≤k) && (decide (k < f.links.length) && (decide (k < f.down.length) && (!(f.down.getD k.toNat true) && (match f.links[k.toNat]? with
 | some x=>aliveB f x.a && aliveB f x.b
 | none=>false))))
def gI (d:List Int) (x:Int):Int:=if 0≤x then d.getD x.toNat (-1) else -1
def sI (d:List Int) (x v:Int):List Int:=if 0≤x then d.set x.toNat v else d
def Edge (f:Fab) (W:Nat→Bool) (x y:Int):Prop:=∃ i l,f.links[i]?=some l∧W i=true∧((l.a=x∧l.b=y)∨(l.b=x∧l.a=y))
section
variable {f:Fab} {W:Nat→Bool} {n:Nat} {to:Int} {d e:List Int}
end
def stepL (f:Fab) (W:Nat→Bool) (n:Int) (d:List Int) (i:Nat):List Int:=match f.links[i]? with
 | none=>d
 | some l=>if W i then
  let d1:=if gI d l.a=n∧gI d l.b < 0 then sI d l.b (n + 1) else d
  if gI d1 l.b=n∧gI d1 l.a < 0 then sI d1 l.a (n + 1) else d1
  else d
def roundL (f:Fab) (W:Nat→Bool) (d:List Int) (n:Nat):List Int:=(List.range f.links.length).foldl (stepL f W n) d
def distW (f:Fab) (W:Nat→Bool) (to:Int):List Int :=
 let n:=f.dead.length
 if aliveB f to then (List.range n).foldl (roundL f W) (sI (List.replicate n (-1)) to 0) else List.replicate n (-1)
section
variable {f:Fab} {W:Nat→Bool} {n:Nat} {to:Int} {d:List Int}
end
section
variable {f:Fab} {W:Nat→Bool} {n:Nat} {to:Int} {d q:List Int} {v:Int}
end
end Go.Proofs.YtlcndmciognneaaGreatDoor
namespace Go.Proofs.YtlcndmciognneaaGreatDoor
open Go.RowKit
end Go.Proofs.YtlcndmciognneaaGreatDoor
namespace Go.Proofs.YtlcndmciognneaaGreatDoor
open Go.RowKit
end Go.Proofs.YtlcndmciognneaaGreatDoor
namespace Go.Proofs.YtlcndmciognneaaGreatDoor
open Go.RowKit
end Go.Proofs.YtlcndmciognneaaGreatDoor
namespace Go.Proofs.YtlcndmciognneaaGreatDoor
section
variable {f:Fab} {W:Nat→Bool} {B:Int}
end
section
variable {n fr:List Int} {a u i:Nat} {dn q:List Nat}
end
section
variable {f:Fab} {W:Nat→Bool} {a b:Nat}
end
end Go.Proofs.YtlcndmciognneaaGreatDoor
namespace Go.Proofs.YtlcndmciognneaaGreatDoor
open Go.RowKit
end Go.Proofs.YtlcndmciognneaaGreatDoor
namespace Go.Proofs.YtlcndmciognneaaGreatDoor
open Go.RowKit
def wkF (f:Fab):Nat→Bool:=fun i=>worksB f i
def dist (f:Fab) (to:Int):List Int:=distW f (wkF f) to
end Go.Proofs.YtlcndmciognneaaGreatDoor
namespace Go.Proofs.YtlcndmciognneaaGreatDoor
open Go.RowKit
end Go.Proofs.YtlcndmciognneaaGreatDoor
namespace Go.Proofs.YtlcndmciognneaaGreatDoor
open Go.RowKit
end Go.Proofs.YtlcndmciognneaaGreatDoor
namespace Go.Proofs.YtlcndmciognneaaGreatDoor
open Go.RowKit
end Go.Proofs.YtlcndmciognneaaGreatDoor
namespace Go.Proofs.YtlcndmciognneaaGreatDoor
open Go.RowKit
end Go.Proofs.YtlcndmciognneaaGreatDoor
namespace Go.Proofs.YtlcndmciognneaaGreatDoor
open Go.RowKit
end Go.Proofs.YtlcndmciognneaaGreatDoor
namespace Go.Proofs.YtlcndmciognneaaGreatDoor
open Go.RowKit
section
variable {f g:Fab} {W V:Nat→Bool} {k j:Nat} {x y z:Int}
end
section
variable {f g:Fab} {x y t:Int} {k:Nat}
end
end Go.Proofs.YtlcndmciognneaaGreatDoor
namespace Go.Proofs.YtlcndmciognneaaGreatDoor
open Go.RowKit
end Go.Proofs.YtlcndmciognneaaGreatDoor
namespace Go.Proofs.YtlcndmciognneaaGreatDoor
open Go.RowKit
end Go.Proofs.YtlcndmciognneaaGreatDoor
namespace Go.Proofs.YtlcndmciognneaaGreatDoor
open Go.RowKit
end Go.Proofs.YtlcndmciognneaaGreatDoor
namespace Go.Proofs.YtlcndmciognneaaGreatDoor
open Go.RowKit
end Go.Proofs.YtlcndmciognneaaGreatDoor
namespace Go.Proofs.YtlcndmciognneaaGreatDoor
open Go.RowKit
end Go.Proofs.YtlcndmciognneaaGreatDoor
namespace Go.Proofs.YtlcndmciognneaaGreatDoor
open Go.RowKit
end Go.Proofs.YtlcndmciognneaaGreatDoor
namespace Go.Proofs.YtlcndmciognneaaGreatDoor
open Go.RowKit
end Go.Proofs.YtlcndmciognneaaGreatDoor
namespace Go.Proofs.YtlcndmciognneaaGreatDoor
open Go.RowKit
end Go.Proofs.YtlcndmciognneaaGreatDoor
namespace Go.Proofs.YtlcndmciognneaaGreatDoor
open Go.RowKit
end Go.Proofs.YtlcndmciognneaaGreatDoor
namespace Go.Proofs.YtlcndmciognneaaGreatDoor
open Go.RowKit
end Go.Proofs.YtlcndmciognneaaGreatDoor
namespace Go.Proofs.YtlcndmciognneaaGreatDoor
open Go.RowKit
theorem resol_pass {r:Rl} {f:Fr} (h:resolV r f=0):arpE f.data=0∧(arpOf f.data).fm=f.src∧hasA r.v4 (arpOf f.data).fr=true∧in4 (arpOf f.data).tt=true∧(grpE f.dst=false∨f.dst=bcM):=by
 unfold resolV resolF at h
 split at h
 ·exact absurd h (by decide)
 rename_i c1
 split at h
 ·exact absurd h (by decide)
 rename_i c2
 split at h
 ·exact absurd h (by decide)
 rename_i c3
 split at h
 ·exact absurd h (by decide)
 rename_i c4
 simp only [Bool.or_eq_true,Bool.not_eq_true',not_or,Bool.not_eq_false,Bool.and_eq_true,not_and,decide_eq_false_iff_not,Decidable.not_not] at c1 c2 c3 c4
 refine ⟨by simpa using c1,c2.1,c2.2,c3,?_⟩
 cases hg:grpE f.dst
 ·exact .inl rfl
 ·exact .inr (c4 hg)
theorem decR_dsc {b:List Int} (hb:dcE b=0) (h:(decR (dcP b)).2=0):dscF b=true:=by
 unfold decR at h
 split at h
 ·rename_i hc;exact absurd h hc
 rename_i hc
 have hc0:chkE (dcP b)=0:=by simpa using hc
 unfold chkE at hc0
 split at hc0
 ·exact absurd hc0 (by decide)
 split at hc0
 ·exact absurd hc0 (by decide)
 rename_i c2
 split at hc0
 ·exact absurd hc0 (by decide)
 split at hc0
 ·exact absurd hc0 (by decide)
 rename_i c4
 split at hc0
 ·exact absurd hc0 (by decide)
 split at hc0
 ·exact absurd hc0 (by decide)
 rename_i c6
 simp only [Bool.or_eq_true,not_or,decide_eq_true_eq,Bool.not_eq_true,bne_eq_false_iff_eq,Bool.not_eq_false'] at c2 c4 c6
 unfold dscF
 simp only [Bool.and_eq_true,decide_eq_true_eq,beq_iff_eq]
 exact ⟨hb,c2.2,by omega,by omega,by omega⟩
theorem hasA_mem {l:List Ad} {a:Ad}:hasA l a=true↔a∈l:=by
 unfold hasA
 rw [List.any_eq_true]
 constructor
 ·rintro ⟨x,hx,he⟩
  have:x=a:=by
   unfold eqA at he
   simp only [Bool.and_eq_true,beq_iff_eq] at he
   obtain ⟨x1,x2,x3⟩:=x
   obtain ⟨a1,a2,a3⟩:=a
   simp_all
  exact this ▸ hx
 ·intro h
  exact ⟨a,h,by unfold eqA;simp⟩
end Go.Proofs.YtlcndmciognneaaGreatDoor
namespace Go.Proofs.YtlcndmciognneaaGreatDoor
open Go.RowKit
theorem sum_set2 (h:List Int) (i:Nat) (hB:IsB h) (hi:i + 1 < h.length) (he:i % 2=0) (z0:gB h i=0) (z1:gB h (i + 1)=0):sumL ((h.set i (sumL h / 256 % 256)).set (i + 1) (sumL h % 256))=0:=by
 have hs:=sumL_bd hB
 have e:accL ((h.set i (sumL h / 256 % 256)).set (i + 1) (sumL h % 256))=accL h + sumL h:=by
  unfold accL
  rw [List.length_set,List.length_set,gB_set _ _ _ (by simp;omega),gB_set _ _ _ (by omega),accN_upd _ _ _ _ (by omega),accN_upd _ _ _ _ (by omega),upd_far _ (by omega),z0,z1]
  have w0:wt i=256:=by unfold wt;rw [if_pos he]
  have w1:wt (i + 1)=1:=by unfold wt;rw [if_neg (by omega)]
  rw [w0,w1]
  omega
 have e2:sumL h=65535 - foldS (accL h):=rfl
 have e3:sumL ((h.set i (sumL h / 256 % 256)).set (i + 1) (sumL h % 256))=65535 - foldS (accL h + sumL h):=by rw [← e];rfl
 rw [e3,e2,foldS_full (n:=accL h) (accN_bd (gB h) h.length (fun j=>hB.at j)).1]
 omega
theorem gB_append_right (xs ys:List Int) (j:Nat):gB (xs++ys) (xs.length + j)=gB ys j:=by
 simp only [gB,List.getD]
 rw [List.getElem?_append_right (by omega),Nat.add_sub_cancel_left]
theorem sumL2_eq {c:Int} (l:List Int) (_h:0≤c∧c≤65535):sumL2 c l=(l.set 2 (c / 256 % 256)).set 3 (c % 256):=by
 unfold sumL2
 rw [show (2:Int) ^ (min (8:Int).toNat IntKind.u16.bits)=256 from by decide,Int.fdiv_eq_ediv_of_nonneg _ (by decide),IntKind.wrap_u8',IntKind.wrap_u8']
theorem chk_zero (s d:Ad) (p:Int) {l:List Int} (hB:IsB l) (h4:4≤l.length) (z2:gB l 2=0) (z3:gB l 3=0):chkF s d p (sumL2 (chkF s d p l) l)=0:=by
 have hb:=chkB_isB s d p hB
 have hs:=sumL_bd hb
 have hc:chkF s d p l=sumL (chkB s d p l):=rfl
 rw [sumL2_eq l (by rw [hc];exact hs)]
 have hev:((addrL s).length + (addrL d).length) % 2=0:=by rw [addrL_len,addrL_len];split<;>split<;>rfl
 have hsp:∀ l2:List Int,l2.length=l.length→chkB s d p l2=(addrL s++addrL d++(len4 l.length++[0,0,0,IntKind.u8.wrap p]))++l2:=fun l2 h=>by rw [chkB_eq,h]
 obtain ⟨P,hP⟩:∃ P,addrL s++addrL d++(len4 l.length++[0,0,0,IntKind.u8.wrap p])=P:=⟨_,rfl⟩
 have hPl:P.length % 2=0:=by rw [← hP];simp [len4];omega
 rw [hP] at hsp
 have h1:=hsp l rfl
 have h2:=hsp ((l.set 2 (chkF s d p l / 256 % 256)).set 3 (chkF s d p l % 256)) (by simp)
 have h3:P++(l.set 2 (chkF s d p l / 256 % 256)).set 3 (chkF s d p l % 256)=((P++l).set (P.length + 2) (sumL (P++l) / 256 % 256)).set (P.length + 2 + 1) (sumL (P++l) % 256):=by
  rw [List.set_append_right _ _ (by omega),List.set_append_right _ _ (by omega),show P.length + 2 - P.length=2 from by omega,show P.length + 2 + 1 - P.length=3 from by omega,hc,h1]
 unfold chkF at h3 h2 ⊢
 rw [h2,h3]
 rw [h1] at hb
 refine sum_set2 (P++l) (P.length + 2) hb (by simp;omega) (by omega) ?_ ?_
 ·rw [gB_append_right,z2]
 ·rw [Nat.add_assoc,gB_append_right,z3]
theorem gB_set_far (l:List Int) {i j:Nat} (x:Int) (h:j≠i):gB (l.set i x) j=gB l j:=by
 simp only [gB,List.getD]
 rw [List.getElem?_set_ne (by omega)]
theorem sumL2_at (c:Int) (l:List Int) {j:Nat} (h:j < 2):gB (sumL2 c l) j=gB l j:=by
 unfold sumL2;rw [gB_set_far _ _ (by omega),gB_set_far _ _ (by omega)]
theorem sumL2_drop (c:Int) (l:List Int):(sumL2 c l).drop 4=l.drop 4:=by
 unfold sumL2;rw [List.drop_set_of_lt (by omega),List.drop_set_of_lt (by omega)]
structure OkN (n:Nb):Prop where
 k1:133≤n.k
 k2:n.k≤137
 f1:0≤n.fl
 f2:n.fl≤7
 f3:n.fl=0∨n.k=136
 l1:n.has=true∨n.ln=zMac
 t1:targB n.k=true→n.tg.v6=true∧grpA n.tg=false
 t2:targB n.k=false→n.tg=zAd
theorem validN_ok {n:Nb} (h:validN n=true):OkN n:=by
 unfold validN at h
 simp only [Bool.and_eq_true,decide_eq_true_eq,Bool.or_eq_true,beq_iff_eq] at h
 obtain ⟨h1,h2,h3,h4,h5,h6,h7⟩:=h
 refine ⟨h1,h2,h3,h4,h5,h6,fun e=>?_,fun e=>?_⟩
 ·rw [e] at h7;simpa using h7
 ·rw [e] at h7;simp only [Bool.false_eq_true,if_false] at h7;exact eqA_iff.1 h7
theorem OkN.fix {n:Nb} (h:OkN n):(fixL n).length=fixN n.k:=by
 have:=addrL_len n.tg
 unfold fixL fixN
 by_cases c1:n.k=133
 ·simp [c1]
 ·by_cases c2:n.k=134
  ·simp [c2]
  ·have ht:targB n.k=true:=by unfold targB;simp only [Bool.and_eq_true,decide_eq_true_eq];have:=h.k1;have:=h.k2;omega
   rw [(h.t1 ht).1] at this
   simp only [if_true] at this
   by_cases c3:n.k=137
   ·simp [c3,this]
   ·simp [c1,c2,c3,this]
theorem adOf_addrL {a:Ad} (h6:a.v6=true) (h:GoodA a):adOf (addrL a)=a:=by
 have h1:=fb_addrB (v6:=a.v6) (hi:=a.hi) (lo:=a.lo) (by unfold validA;rw [h6];rfl) h.1 h.2
 have h2:=addrL_len a
 rw [h6] at h2
 unfold adOf
 rw [h2]
 unfold addrL
 rw [h1]
 obtain ⟨v,x,y⟩:=a
 simp only at h6
 subst h6
 rfl
theorem addrL_take {a:Ad} (h6:a.v6=true) (r:List Int):(addrL a++r).take (20 - 4)=addrL a:=by
 have h2:=addrL_len a
 rw [h6] at h2
 rw [List.take_append_of_le_length (by rw [h2];decide),List.take_of_length_le (by rw [h2];decide)]
theorem optF_none (q:Nat) (num:Int) (has:Bool) (ln:List Int):optF q [] num has ln=some (has,ln):=by
 cases q with
 | zero=>rfl
 | succ q=>unfold optF;rfl
theorem optF_one {num:Int} {ln:List Int} (h:ln.length=6):optF ([num,1]++ln).length ([num,1]++ln) num false zMac=some (true,ln):=by
 match ln,h with
 | [a,b,c,d,e,f],_ =>
  show optF 8 [num,1,a,b,c,d,e,f] num false zMac=_
  unfold optF
  rw [if_neg (by simp),if_neg (by simp [gB]),if_pos ⟨rfl,rfl,rfl⟩]
  exact optF_none _ _ _ _
def oddS (n:Nb) (s:Ad):Bool:=n.k == 135 && (n.has && eqA s ⟨true,0,0⟩)
theorem rd_back {n:Nb} {s:Ad} (h:OkN n) (hg:GoodN n):rdB s n.k (fixL n++if n.has then [optN n.k,1]++n.ln else [])=if oddS n s then (zNb,5) else (n,0):=by
 have hfx:=h.fix
 have hk1:=h.k1
 have hk2:=h.k2
 obtain ⟨O,hO⟩:∃ O,(if n.has then [optN n.k,1]++n.ln else [])=O:=⟨_,rfl⟩
 have hopt:optF O.length O (optN n.k) false zMac=some (n.has,n.ln):=by
  rw [← hO]
  cases hh:n.has with
  | true=>simp only [if_true];exact optF_one hg.1.1
  | false =>
   have:=h.l1
   rw [hh] at this
   simp only [Bool.false_eq_true,false_or] at this
   simp only [Bool.false_eq_true,if_false]
   rw [optF_none,this]
 rw [hO]
 have hdr:(fixL n++O).drop (fixN n.k)=O:=by rw [← hfx,List.drop_left]
 have htg:tgF n.k (fixL n++O)=n.tg:=by
  unfold tgF
  cases ht:targB n.k with
  | false=>simp only [Bool.false_eq_true,if_false];rw [h.t2 ht]
  | true =>
   simp only [if_true]
   have h6:=(h.t1 ht).1
   have hd:∃ r,((fixL n++O).drop 4)=addrL n.tg++r:=by
    unfold targB at ht
    simp only [Bool.and_eq_true,decide_eq_true_eq] at ht
    unfold fixL
    rw [if_neg (by omega),if_neg (by omega)]
    by_cases c:n.k=137
    ·rw [if_pos c];exact ⟨addrL n.tg++O,by simp [List.replicate]⟩
    ·rw [if_neg c];exact ⟨O,by simp⟩
   obtain ⟨r,hr⟩:=hd
   rw [hr,addrL_take h6,adOf_addrL h6 hg.2]
 have hfl:flF n.k (fixL n++O)=n.fl:=by
  unfold flF
  by_cases c:n.k=136
  ·rw [if_pos c]
   have:gB (fixL n++O) 0=flB n:=by
    unfold fixL
    rw [if_neg (by omega),if_neg (by omega),if_neg (by omega)]
    rfl
   have f1:=h.f1
   have f2:=h.f2
   rw [this,flB,show (2:Int) ^ (min (5:Int).toNat IntKind.u8.bits)=32 from by decide,show (2:Int) ^ (min (5:Int).toNat IntKind.i64.bits)=32 from by decide,IntWalk.i64_in _ (by omega),IntKind.wrap_u8',Int.fdiv_eq_ediv_of_nonneg _ (by decide)]
   omega
  ·rw [if_neg c]
   rcases h.f3 with e|e
   ·exact e.symm
   ·exact absurd e c
 unfold rdB
 rw [if_neg (by rw [List.length_append,hfx];omega),htg,hfl,hdr,hopt]
 rw [if_neg (by rintro ⟨e1,e2⟩;rw [(h.t1 e1).2] at e2;cases e2)]
 dsimp only
 unfold oddS
 by_cases c:n.k=135∧n.has=true∧eqA s ⟨true,0,0⟩=true
 ·rw [if_pos c,if_pos (by rw [c.1,c.2.1,c.2.2];rfl)]
 ·rw [if_neg c,if_neg (fun e=>c (by simpa using e))]
theorem sumL2_isB (c:Int) {l:List Int} (h:IsB l):IsB (sumL2 c l):=by
 unfold sumL2;exact (h.set 2 (u8_bd _)).set 3 (u8_bd _)
theorem enc_isB {n:Nb} (hg:GoodN n) (s d:Ad):IsB (encN n s d).bs:=sumL2_isB _ (encL_isB hg.1.2)
theorem enc_chk {n:Nb} {s d:Ad} (h:OkN n) (hg:GoodN n) (hs:s.v6=true) (hd:d.v6=true):chkE (encN n s d)=0:=by
 have hel:=encL_len hg.1.1
 have hk1:=h.k1
 have hk2:=h.k2
 have hb:=encL_isB (n:=n) hg.1.2
 have hv:vpk (encN n s d)=true:=by
  unfold vpk validP
  simp only [Bool.and_eq_true,decide_eq_true_eq,beq_iff_eq]
  unfold encN
  refine ⟨by unfold validA;rw [hs];rfl,by unfold validA;rw [hd];rfl,by rw [hs,hd],show (0:Int)≤58 by decide,show (58:Int)≤255 by decide,show (0:Int)≤255 by decide,show (255:Int)≤255 by decide,?_⟩
  simp only [sumL2_len,hs]
  unfold mostP
  simp only [if_true]
  omega
 have h0:gB (encN n s d).bs 0=n.k:=by
  show gB (sumL2 _ (encL n)) 0=_
  rw [sumL2_at _ _ (by decide)]
  show IntKind.u8.wrap n.k=_
  rw [IntKind.wrap_u8'];omega
 have h1:gB (encN n s d).bs 1=0:=by
  show gB (sumL2 _ (encL n)) 1=_
  rw [sumL2_at _ _ (by decide)]
  rfl
 have hz:chkF (encN n s d).s (encN n s d).d (encN n s d).p (encN n s d).bs=0:=chk_zero s d 58 hb hel.1 rfl rfl
 have hl:(encN n s d).bs.length=(encL n).length:=sumL2_len _ _
 unfold chkE
 rw [hv,h0,h1,hz,hl]
 rw [if_neg (by simp),if_neg (by show ¬ ((!s.v6 || ((58:Int) != 58))=true);rw [hs];simp),if_neg (by show ¬ (((255:Int) != 255)=true);simp),if_neg (by simp;omega),if_neg (by simp),if_neg (by simp;omega)]
theorem dec_enc {n:Nb} {s d:Ad} (hv:validN n=true) (hg:GoodN n) (hs:s.v6=true) (hd:d.v6=true):decR (encN n s d)=if oddS n s then (zNb,5) else (n,0):=by
 have h:=validN_ok hv
 have hk1:=h.k1
 have hk2:=h.k2
 unfold decR
 rw [if_neg (by rw [enc_chk h hg hs hd];simp)]
 have h0:gB (encN n s d).bs 0=n.k:=by
  show gB (sumL2 _ (encL n)) 0=_
  rw [sumL2_at _ _ (by decide)]
  show IntKind.u8.wrap n.k=_
  rw [IntKind.wrap_u8'];omega
 have hd4:(encN n s d).bs.drop 4=fixL n++if n.has then [optN n.k,1]++n.ln else []:=by
  show (sumL2 _ (encL n)).drop 4=_
  rw [sumL2_drop]
  rfl
 rw [h0,hd4]
 exact rd_back h hg
end Go.Proofs.YtlcndmciognneaaGreatDoor
namespace Go.Proofs.YtlcndmciognneaaGreatDoor
open Go.RowKit
theorem vpk_of {s d:Ad} {t:Int} {bs:List Int} (hs:s.v6=true) (hd:d.v6=true) (ht:0≤t∧t≤255) (hb:bs.length≤1460):vpk ⟨s,d,58,t,bs⟩=true:=by
 unfold vpk validP
 simp only [Bool.and_eq_true,decide_eq_true_eq,beq_iff_eq]
 refine ⟨by unfold validA;rw [hs];rfl,by unfold validA;rw [hd];rfl,by rw [hs,hd],by decide,by decide,ht.1,ht.2,?_⟩
 unfold mostP
 rw [hs]
 simp only [if_true]
 omega
theorem enc_len {n:Nb} (hg:GoodN n) (s d:Ad):4≤(encN n s d).bs.length∧(encN n s d).bs.length≤48:=by
 have hel:=encL_len hg.1.1
 have hl:(encN n s d).bs.length=(encL n).length:=sumL2_len _ _
 omega
end Go.Proofs.YtlcndmciognneaaGreatDoor
