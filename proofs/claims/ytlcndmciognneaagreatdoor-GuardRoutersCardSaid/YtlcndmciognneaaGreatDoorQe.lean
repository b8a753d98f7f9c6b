/-
  Addresses and bytes as the abstract machine sees them; small functions of addresses and neighbours. Stations and bytes, as they come in. The database of members as the abstract machine sees it; keys of its maps. Comparing structs and arrays of numbers. Which messages are valid: both texts. Check sums, addresses from bytes: both texts.
-/
import Derived.Test.YtlcndmciognneaaGreatDoorQa
import Derived.Test.YtlcndmciognneaaGreatDoorMab
import Derived.DeepKeys
namespace Go.Proofs.YtlcndmciognneaaGreatDoor
open Go.RowKit
def adC (a:Ad):List AV:=[.base (.bool a.v6),.base (.int .u64 a.hi),.base (.int .u64 a.lo)]
def bytesC (l:List Int):List AV:=l.map fun z=>.base (.int .u8 z)
theorem bytesC_pure (l:List Int):(bytesC l).all AV.pure1=true:=by
 induction l with
 | nil=>rfl
 | cons x l ih=>rw [show bytesC (x::l)=[.base (.int .u8 x)]++bytesC l from rfl,List.all_append,ih];rfl
theorem bytes_tk {l:List Int} {n:Nat} (h:l.length=n):Tk (bytesC l) 0 (n * 1) (bytesC l):=by
 have:=Tk.all (bytesC l)
 rwa [show (bytesC l).length=n * 1 from by simp [bytesC,h]] at this
theorem gB_at {l:List Int} {k:Nat} (h:k < l.length):gB l k=l[k]:=by simp [gB,h]
theorem by_at {l:List Int} {k:Nat} (h:k < l.length):(bytesC l)[k * 1]?=some (.base (.int .u8 (gB l k))):=by simp [bytesC,gB,h]
theorem by_at0 {l:List Int} {k:Nat} (h:k < l.length):(bytesC l)[0 + k * 1]?=some (.base (.int .u8 (gB l k))):=by simp [bytesC,gB,h]
theorem bytesC_app (a b:List Int):bytesC (a++b)=bytesC a++bytesC b:=by simp [bytesC]
theorem bytesC_len (a:List Int):(bytesC a).length=a.length:=by simp [bytesC]
theorem avalid_any (a:Ad):AFn Tryz.prog 174 0 [.agg (adC a)] mt (.base (.bool (validA a.v6 a.hi a.lo))) mt:=by
 refine AFn.eq Tryz.func174 rfl rfl (Nat.le_of_ble_eq_true rfl) ?_
 unfold adC
 refine Wq<|qW 0 2 rfl<|qC rfl<|qA rfl<|Nl<|Wq<|qW 6 19 rfl<|qF rfl ty54 rfl<|qL rfl ty4 rfl<|qM rfl<|RW.split (t:=5) rfl (fun hb1=>?_) (fun hb1=>?_)
 ·
  try (have hb1p:=of_decide_eq_true hb1)
  try (have hb1q:=eq_of_beq hb1)
  refine qD rfl hb1 rfl<|qD rfl hb1 rfl<|qD rfl hb1 rfl<|qD rfl hb1 rfl<|Ud rfl rfl rfl rfl<|Ud rfl rfl rfl rfl<|Ud rfl rfl rfl rfl<|qD rfl hb1 rfl<|qT rfl hb1 rfl<|qA rfl<|Nl<|Wz ⟨.inl rfl,_,mt,Rc (Rt0 rfl) (Rv),aM,?_⟩
  exact ⟨by (simp_all [validA,retOf])<;>omega,rfl⟩
 ·
  try (have hb1p:=of_decide_eq_false hb1)
  try (have hb1q:=ne_of_beq_false hb1)
  refine gF rfl hb1 ty54 rfl<|gL rfl hb1 ty52 rfl<|gE rfl hb1<|gM rfl hb1<|RW.split (t:=9) rfl (fun hb2=>?_) (fun hb2=>?_)
  ·
   try (have hb2p:=of_decide_eq_true hb2)
   try (have hb2q:=eq_of_beq hb2)
   refine gF rfl hb2 ty54 rfl<|gL rfl hb2 ty52 rfl<|gK rfl hb2<|qU rfl hb1 rfl (Pt rfl rfl hb2 rfl)<|qP rfl hb1 rfl<|qA rfl<|Nl<|Wz ⟨.inl rfl,_,mt,Rc (Rt0 rfl) (Rv),aM,?_⟩
   exact ⟨by (simp_all [validA,retOf])<;>omega,rfl⟩
  ·
   try (have hb2p:=of_decide_eq_false hb2)
   try (have hb2q:=ne_of_beq_false hb2)
   refine qD rfl hb2 rfl<|qD rfl hb2 rfl<|qD rfl hb2 rfl<|qU rfl hb1 rfl (Pf0 rfl rfl hb2 rfl)<|qP rfl hb1 rfl<|qA rfl<|Nl<|Wz ⟨.inl rfl,_,mt,Rc (Rt0 rfl) (Rv),aM,?_⟩
   exact ⟨by (simp_all [validA,retOf])<;>omega,rfl⟩
theorem rvalid_any (a:Ad):AFn Tryz.prog 125 0 [.agg (adC a)] mt (.base (.bool (validA a.v6 a.hi a.lo))) mt:=by
 refine AFn.eq Tryz.func125 rfl rfl (Nat.le_of_ble_eq_true rfl) ?_
 unfold adC
 refine Wq<|qW 0 2 rfl<|qC rfl<|qA rfl<|Nl<|Wq<|qW 6 19 rfl<|qF rfl ty54 rfl<|qL rfl ty4 rfl<|qM rfl<|RW.split (t:=5) rfl (fun hb3=>?_) (fun hb3=>?_)
 ·
  try (have hb3p:=of_decide_eq_true hb3)
  try (have hb3q:=eq_of_beq hb3)
  refine qD rfl hb3 rfl<|qD rfl hb3 rfl<|qD rfl hb3 rfl<|qD rfl hb3 rfl<|Ud rfl rfl rfl rfl<|Ud rfl rfl rfl rfl<|Ud rfl rfl rfl rfl<|qD rfl hb3 rfl<|qT rfl hb3 rfl<|qA rfl<|Nl<|Wz ⟨.inl rfl,_,mt,Rc (Rt0 rfl) (Rv),aM,?_⟩
  exact ⟨by (simp_all [validA,retOf])<;>omega,rfl⟩
 ·
  try (have hb3p:=of_decide_eq_false hb3)
  try (have hb3q:=ne_of_beq_false hb3)
  refine gF rfl hb3 ty54 rfl<|gL rfl hb3 ty52 rfl<|gE rfl hb3<|gM rfl hb3<|RW.split (t:=9) rfl (fun hb4=>?_) (fun hb4=>?_)
  ·
   try (have hb4p:=of_decide_eq_true hb4)
   try (have hb4q:=eq_of_beq hb4)
   refine gF rfl hb4 ty54 rfl<|gL rfl hb4 ty52 rfl<|gK rfl hb4<|qU rfl hb3 rfl (Pt rfl rfl hb4 rfl)<|qP rfl hb3 rfl<|qA rfl<|Nl<|Wz ⟨.inl rfl,_,mt,Rc (Rt0 rfl) (Rv),aM,?_⟩
   exact ⟨by (simp_all [validA,retOf])<;>omega,rfl⟩
  ·
   try (have hb4p:=of_decide_eq_false hb4)
   try (have hb4q:=ne_of_beq_false hb4)
   refine qD rfl hb4 rfl<|qD rfl hb4 rfl<|qD rfl hb4 rfl<|qU rfl hb3 rfl (Pf0 rfl rfl hb4 rfl)<|qP rfl hb3 rfl<|qA rfl<|Nl<|Wz ⟨.inl rfl,_,mt,Rc (Rt0 rfl) (Rv),aM,?_⟩
   exact ⟨by (simp_all [validA,retOf])<;>omega,rfl⟩
def grpA (a:Ad):Bool:=a.hi.fdiv (2 ^ (min (56:Int).toNat IntKind.u64.bits)) == 255
theorem group_any (a:Ad):AFn Tryz.prog 155 0 [.agg (adC a)] mt (.base (.bool (grpA a))) mt:=by
 refine AFn.eq Tryz.func155 rfl rfl (Nat.le_of_ble_eq_true rfl) ?_
 unfold adC
 refine Wq<|qW 0 2 rfl<|qC rfl<|qA rfl<|Nl<|Wq<|qW 6 11 rfl<|qF rfl ty54 rfl<|qL rfl ty52 rfl<|Od rfl rfl (LO.shr rfl rfl rfl (by omega))<|qE rfl<|qA rfl<|Nl<|Wz ⟨.inl rfl,_,mt,Rc (Rt0 rfl) (Rv),aM,?_⟩
 exact ⟨rfl,rfl⟩
theorem groupX_any (a:Ad):AFn Tryz.prog 81 0 [.agg (adC a)] mt (.base (.bool (grpA a))) mt:=by
 refine AFn.eq Tryz.func81 rfl rfl (Nat.le_of_ble_eq_true rfl) ?_
 unfold adC
 refine Wq<|qW 0 2 rfl<|qC rfl<|qA rfl<|Nl<|Wq<|qW 6 11 rfl<|qF rfl ty54 rfl<|qL rfl ty52 rfl<|Od rfl rfl (LO.shr rfl rfl rfl (by omega))<|qE rfl<|qA rfl<|Nl<|Wz ⟨.inl rfl,_,mt,Rc (Rt0 rfl) (Rv),aM,?_⟩
 exact ⟨rfl,rfl⟩
def targB (k:Int):Bool:=decide (135≤k) && decide (k≤137)
theorem targeted_any (k:Int):AFn Tryz.prog 154 0 [.base (.int .i64 k)] mt (.base (.bool (targB k))) mt:=by
 refine AFn.eq Tryz.func154 rfl rfl (Nat.le_of_ble_eq_true rfl)<|Wq<|qW 0 1 rfl<|qA rfl<|Nl<|Wq<|qW 5 12 rfl<|qM rfl<|qGe rfl<|qM rfl<|RW.split (t:=5) rfl (fun hb5=>?_) (fun hb5=>?_)
 ·
  try (have hb5p:=of_decide_eq_true hb5)
  try (have hb5q:=eq_of_beq hb5)
  refine gM rfl hb5<|gLe rfl hb5<|qT rfl hb5 rfl<|qA rfl<|Nl<|Wz ⟨.inl rfl,_,mt,Rc (Rt0 rfl) (Rv),aM,?_⟩
  exact ⟨by (simp_all [targB,retOf])<;>omega,rfl⟩
 ·
  try (have hb5p:=of_decide_eq_false hb5)
  try (have hb5q:=ne_of_beq_false hb5)
  refine qD rfl hb5 rfl<|qD rfl hb5 rfl<|qP rfl hb5 rfl<|qA rfl<|Nl<|Wz ⟨.inl rfl,_,mt,Rc (Rt0 rfl) (Rv),aM,?_⟩
  exact ⟨by (simp_all [targB,retOf])<;>omega,rfl⟩
theorem targetedX_any (k:Int):AFn Tryz.prog 80 0 [.base (.int .i64 k)] mt (.base (.bool (targB k))) mt:=by
 refine AFn.eq Tryz.func80 rfl rfl (Nat.le_of_ble_eq_true rfl)<|Wq<|qW 0 1 rfl<|qA rfl<|Nl<|Wq<|qW 5 12 rfl<|qM rfl<|qGe rfl<|qM rfl<|RW.split (t:=5) rfl (fun hb6=>?_) (fun hb6=>?_)
 ·
  try (have hb6p:=of_decide_eq_true hb6)
  try (have hb6q:=eq_of_beq hb6)
  refine gM rfl hb6<|gLe rfl hb6<|qT rfl hb6 rfl<|qA rfl<|Nl<|Wz ⟨.inl rfl,_,mt,Rc (Rt0 rfl) (Rv),aM,?_⟩
  exact ⟨by (simp_all [targB,retOf])<;>omega,rfl⟩
 ·
  try (have hb6p:=of_decide_eq_false hb6)
  try (have hb6q:=ne_of_beq_false hb6)
  refine qD rfl hb6 rfl<|qD rfl hb6 rfl<|qP rfl hb6 rfl<|qA rfl<|Nl<|Wz ⟨.inl rfl,_,mt,Rc (Rt0 rfl) (Rv),aM,?_⟩
  exact ⟨by (simp_all [targB,retOf])<;>omega,rfl⟩
def optN (k:Int):Int:=if k=136∨k=137 then 2 else 1
theorem option_any (k:Int):AFn Tryz.prog 157 0 [.base (.int .i64 k)] mt (.base (.int .u8 (optN k))) mt:=by
 refine AFn.eq Tryz.func157 rfl rfl (Nat.le_of_ble_eq_true rfl)<|Wq<|qW 0 1 rfl<|qA rfl<|Nl<|Wq<|Wq<|qW 5 11 rfl<|qM rfl<|qE rfl<|qM rfl<|RW.split (t:=5) rfl (fun hb7=>?_) (fun hb7=>?_)
 ·
  try (have hb7p:=of_decide_eq_true hb7)
  try (have hb7q:=eq_of_beq hb7)
  refine qD rfl hb7 rfl<|qD rfl hb7 rfl<|qT rfl hb7 rfl<|Nl<|Wt rfl rfl<|Wq<|qW 15 16 rfl<|qA rfl<|Nl<|Wz ⟨.inl rfl,_,mt,Rc (Rt0 rfl) (Rv),aM,?_⟩
  exact ⟨by (simp_all [optN,retOf])<;>omega,rfl⟩
 ·
  try (have hb7p:=of_decide_eq_false hb7)
  try (have hb7q:=ne_of_beq_false hb7)
  refine gM rfl hb7<|gE rfl hb7<|qP rfl hb7 rfl<|Nl<|W.cond rfl (fun hb8=>?_) (fun hb8=>?_)
  ·
   try (have hb8p:=of_decide_eq_true hb8)
   try (have hb8q:=eq_of_beq hb8)
   refine Wq<|qW 15 16 rfl<|qA rfl<|Nl<|Wz ⟨.inl rfl,_,mt,Rc (Rt0 rfl) (Rv),aM,?_⟩
   exact ⟨by (simp_all [optN,retOf])<;>omega,rfl⟩
  ·
   try (have hb8p:=of_decide_eq_false hb8)
   try (have hb8q:=ne_of_beq_false hb8)
   refine Wu<|Wq<|qW 20 21 rfl<|qA rfl<|Nl<|Wz ⟨.inl rfl,_,mt,Rc (Rt0 rfl) (Rv),aM,?_⟩
   exact ⟨by (simp_all [optN,retOf])<;>omega,rfl⟩
theorem optionX_any (k:Int):AFn Tryz.prog 82 0 [.base (.int .i64 k)] mt (.base (.int .u8 (optN k))) mt:=by
 refine AFn.eq Tryz.func82 rfl rfl (Nat.le_of_ble_eq_true rfl)<|Wq<|qW 0 1 rfl<|qA rfl<|Nl<|Wq<|Wq<|qW 5 11 rfl<|qM rfl<|qE rfl<|qM rfl<|RW.split (t:=5) rfl (fun hb9=>?_) (fun hb9=>?_)
 ·
  try (have hb9p:=of_decide_eq_true hb9)
  try (have hb9q:=eq_of_beq hb9)
  refine qD rfl hb9 rfl<|qD rfl hb9 rfl<|qT rfl hb9 rfl<|Nl<|Wt rfl rfl<|Wq<|qW 15 16 rfl<|qA rfl<|Nl<|Wz ⟨.inl rfl,_,mt,Rc (Rt0 rfl) (Rv),aM,?_⟩
  exact ⟨by (simp_all [optN,retOf])<;>omega,rfl⟩
 ·
  try (have hb9p:=of_decide_eq_false hb9)
  try (have hb9q:=ne_of_beq_false hb9)
  refine gM rfl hb9<|gE rfl hb9<|qP rfl hb9 rfl<|Nl<|W.cond rfl (fun hb10=>?_) (fun hb10=>?_)
  ·
   try (have hb10p:=of_decide_eq_true hb10)
   try (have hb10q:=eq_of_beq hb10)
   refine Wq<|qW 15 16 rfl<|qA rfl<|Nl<|Wz ⟨.inl rfl,_,mt,Rc (Rt0 rfl) (Rv),aM,?_⟩
   exact ⟨by (simp_all [optN,retOf])<;>omega,rfl⟩
  ·
   try (have hb10p:=of_decide_eq_false hb10)
   try (have hb10q:=ne_of_beq_false hb10)
   refine Wu<|Wq<|qW 20 21 rfl<|qA rfl<|Nl<|Wz ⟨.inl rfl,_,mt,Rc (Rt0 rfl) (Rv),aM,?_⟩
   exact ⟨by (simp_all [optN,retOf])<;>omega,rfl⟩
def fixN (k:Int):Nat:=if k=133 then 4 else if k=134 then 12 else if k=137 then 36 else 20
theorem fixedX_any (k:Int):AFn Tryz.prog 79 0 [.base (.int .i64 k)] mt (.base (.int .i64 (fixN k:Nat))) mt:=by
 refine AFn.eq Tryz.func79 rfl rfl (Nat.le_of_ble_eq_true rfl)<|Wq<|qW 0 1 rfl<|qA rfl<|Nl<|Wq<|Wq<|qW 5 6 rfl<|qM rfl<|Nl<|Wb<|Wq<|qW 10 12 rfl<|qE rfl<|qA rfl<|Nl<|W.cond rfl (fun hb11=>?_) (fun hb11=>?_)
 ·
  try (have hb11p:=of_decide_eq_true hb11)
  try (have hb11q:=eq_of_beq hb11)
  refine Wq<|qW 16 17 rfl<|qA rfl<|Nl<|Wz ⟨.inl rfl,_,mt,Rc (Rt0 rfl) (Rv),aM,?_⟩
  exact ⟨by (simp_all [fixN,retOf])<;>omega,rfl⟩
 ·
  try (have hb11p:=of_decide_eq_false hb11)
  try (have hb11q:=ne_of_beq_false hb11)
  refine Wq<|qW 21 23 rfl<|qE rfl<|qA rfl<|Nl<|W.cond rfl (fun hb12=>?_) (fun hb12=>?_)
  ·
   try (have hb12p:=of_decide_eq_true hb12)
   try (have hb12q:=eq_of_beq hb12)
   refine Wq<|qW 27 28 rfl<|qA rfl<|Nl<|Wz ⟨.inl rfl,_,mt,Rc (Rt0 rfl) (Rv),aM,?_⟩
   exact ⟨by (simp_all [fixN,retOf])<;>omega,rfl⟩
  ·
   try (have hb12p:=of_decide_eq_false hb12)
   try (have hb12q:=ne_of_beq_false hb12)
   refine Wq<|qW 32 34 rfl<|qE rfl<|qA rfl<|Nl<|W.cond rfl (fun hb13=>?_) (fun hb13=>?_)
   ·
    try (have hb13p:=of_decide_eq_true hb13)
    try (have hb13q:=eq_of_beq hb13)
    refine Wq<|qW 38 39 rfl<|qA rfl<|Nl<|Wz ⟨.inl rfl,_,mt,Rc (Rt0 rfl) (Rv),aM,?_⟩
    exact ⟨by (simp_all [fixN,retOf])<;>omega,rfl⟩
   ·
    try (have hb13p:=of_decide_eq_false hb13)
    try (have hb13q:=ne_of_beq_false hb13)
    refine Wu<|Wq<|qW 43 44 rfl<|qA rfl<|Nl<|Wz ⟨.inl rfl,_,mt,Rc (Rt0 rfl) (Rv),aM,?_⟩
    exact ⟨by (simp_all [fixN,retOf])<;>omega,rfl⟩
structure Pk where
 s:Ad
 d:Ad
 p:Int
 t:Int
 bs:List Int
def pkC (x:Pk):List AV:=adC x.s++adC x.d++[.base (.int .i64 x.p),.base (.int .i64 x.t),.isl (bytesC x.bs) x.bs.length]
def vpk (x:Pk):Bool:=validP x.s x.d x.p x.t x.bs.length
theorem pvalid_any (x:Pk):AFn Tryz.prog 151 0 [.agg (pkC x)] mt (.base (.bool (vpk x))) mt:=by
 refine AFn.eq Tryz.func151 rfl rfl (Nat.le_of_ble_eq_true rfl) ?_
 have hav:=avalid_any
 unfold adC at hav
 unfold pkC adC
 refine Wq<|qW 0 2 rfl<|qC rfl<|qA rfl<|Nl<|Wq<|qW 6 7 rfl<|qA rfl<|Nl<|Wq<|Wq<|qW 11 14 rfl<|qF rfl ty83 rfl<|qF rfl ty54 rfl<|qL rfl ty4 rfl<|Nl<|W.cond rfl (fun hb14=>?_) (fun hb14=>?_)
 ·
  try (have hb14p:=of_decide_eq_true hb14)
  try (have hb14q:=eq_of_beq hb14)
  refine qW 18 19 rfl<|qA rfl<|Nl<|Wq<|qW 23 68 rfl<|qF rfl ty83 rfl<|qG rfl ty54 rfl (Tl rfl)<|qY rfl (hav _) fok174 rfl<|qM rfl<|RW.split (t:=10) rfl (fun hb15=>?_) (fun hb15=>?_)
  ·
   try (have hb15p:=of_decide_eq_true hb15)
   try (have hb15q:=eq_of_beq hb15)
   refine gF rfl hb15 ty83 rfl<|gG rfl hb15 ty54 rfl (Tl rfl)<|gY rfl hb15 (hav _) fok174 rfl<|qT rfl hb15 rfl<|qM rfl<|RW.split (t:=15) rfl (fun hb16=>?_) (fun hb16=>?_)
   ·
    try (have hb16p:=of_decide_eq_true hb16)
    try (have hb16q:=eq_of_beq hb16)
    refine gF rfl hb16 ty83 rfl<|gF rfl hb16 ty54 rfl<|gL rfl hb16 ty4 rfl<|gF rfl hb16 ty83 rfl<|gF rfl hb16 ty54 rfl<|gL rfl hb16 ty4 rfl<|qU rfl hb16 rfl (LO.eql_bool rfl rfl rfl ty4)<|qT rfl hb16 rfl<|qM rfl<|RW.split (t:=24) rfl (fun hb17=>?_) (fun hb17=>?_)
    ·
     try (have hb17p:=of_decide_eq_true hb17)
     try (have hb17q:=eq_of_beq hb17)
     refine gF rfl hb17 ty83 rfl<|gL rfl hb17 ty3 rfl<|gGe rfl hb17<|qT rfl hb17 rfl<|qM rfl<|RW.split (t:=29) rfl (fun hb18=>?_) (fun hb18=>?_)
     ·
      try (have hb18p:=of_decide_eq_true hb18)
      try (have hb18q:=eq_of_beq hb18)
      refine gF rfl hb18 ty83 rfl<|gL rfl hb18 ty3 rfl<|gLe rfl hb18<|qT rfl hb18 rfl<|qM rfl<|RW.split (t:=34) rfl (fun hb19=>?_) (fun hb19=>?_)
      ·
       try (have hb19p:=of_decide_eq_true hb19)
       try (have hb19q:=eq_of_beq hb19)
       refine gF rfl hb19 ty83 rfl<|gL rfl hb19 ty3 rfl<|gGe rfl hb19<|qT rfl hb19 rfl<|qM rfl<|RW.split (t:=39) rfl (fun hb20=>?_) (fun hb20=>?_)
       ·
        try (have hb20p:=of_decide_eq_true hb20)
        try (have hb20q:=eq_of_beq hb20)
        refine gF rfl hb20 ty83 rfl<|gL rfl hb20 ty3 rfl<|gLe rfl hb20<|qT rfl hb20 rfl<|qM rfl<|RW.split (t:=44) rfl (fun hb21=>?_) (fun hb21=>?_)
        ·
         try (have hb21p:=of_decide_eq_true hb21)
         try (have hb21q:=eq_of_beq hb21)
         refine gF rfl hb21 ty83 rfl<|gL rfl hb21 ty24 rfl<|gH rfl hb21 ty24<|gM rfl hb21<|gLe rfl hb21<|qT rfl hb21 rfl<|qA rfl<|Nl<|Wz ⟨.inl rfl,_,mt,Rc (Rt0 rfl) (Rv),aM,?_⟩
         exact ⟨by (simp_all [vpk,validP,mostP,retOf])<;>omega,rfl⟩
        ·
         try (have hb21p:=of_decide_eq_false hb21)
         try (have hb21q:=ne_of_beq_false hb21)
         refine qD rfl hb21 rfl<|qD rfl hb21 rfl<|qD rfl hb21 rfl<|qD rfl hb21 rfl<|qD rfl hb21 rfl<|qP rfl hb21 rfl<|qA rfl<|Nl<|Wz ⟨.inl rfl,_,mt,Rc (Rt0 rfl) (Rv),aM,?_⟩
         exact ⟨by (simp_all [vpk,validP,mostP,retOf])<;>omega,rfl⟩
       ·
        try (have hb20p:=of_decide_eq_false hb20)
        try (have hb20q:=ne_of_beq_false hb20)
        refine qD rfl hb20 rfl<|qD rfl hb20 rfl<|qD rfl hb20 rfl<|qP rfl hb20 rfl<|qM rfl<|qD rfl rfl rfl<|qD rfl rfl rfl<|qD rfl rfl rfl<|qD rfl rfl rfl<|qD rfl rfl rfl<|qP rfl rfl rfl<|qA rfl<|Nl<|Wz ⟨.inl rfl,_,mt,Rc (Rt0 rfl) (Rv),aM,?_⟩
        exact ⟨by (simp_all [vpk,validP,mostP,retOf])<;>omega,rfl⟩
      ·
       try (have hb19p:=of_decide_eq_false hb19)
       try (have hb19q:=ne_of_beq_false hb19)
       refine qD rfl hb19 rfl<|qD rfl hb19 rfl<|qD rfl hb19 rfl<|qP rfl hb19 rfl<|qM rfl<|qD rfl rfl rfl<|qD rfl rfl rfl<|qD rfl rfl rfl<|qP rfl rfl rfl<|qM rfl<|qD rfl rfl rfl<|qD rfl rfl rfl<|qD rfl rfl rfl<|qD rfl rfl rfl<|qD rfl rfl rfl<|qP rfl rfl rfl<|qA rfl<|Nl<|Wz ⟨.inl rfl,_,mt,Rc (Rt0 rfl) (Rv),aM,?_⟩
       exact ⟨by (simp_all [vpk,validP,mostP,retOf])<;>omega,rfl⟩
     ·
      try (have hb18p:=of_decide_eq_false hb18)
      try (have hb18q:=ne_of_beq_false hb18)
      refine qD rfl hb18 rfl<|qD rfl hb18 rfl<|qD rfl hb18 rfl<|qP rfl hb18 rfl<|qM rfl<|qD rfl rfl rfl<|qD rfl rfl rfl<|qD rfl rfl rfl<|qP rfl rfl rfl<|qM rfl<|qD rfl rfl rfl<|qD rfl rfl rfl<|qD rfl rfl rfl<|qP rfl rfl rfl<|qM rfl<|qD rfl rfl rfl<|qD rfl rfl rfl<|qD rfl rfl rfl<|qD rfl rfl rfl<|qD rfl rfl rfl<|qP rfl rfl rfl<|qA rfl<|Nl<|Wz ⟨.inl rfl,_,mt,Rc (Rt0 rfl) (Rv),aM,?_⟩
      exact ⟨by (simp_all [vpk,validP,mostP,retOf])<;>omega,rfl⟩
    ·
     try (have hb17p:=of_decide_eq_false hb17)
     try (have hb17q:=ne_of_beq_false hb17)
     refine qD rfl hb17 rfl<|qD rfl hb17 rfl<|qD rfl hb17 rfl<|qP rfl hb17 rfl<|qM rfl<|qD rfl rfl rfl<|qD rfl rfl rfl<|qD rfl rfl rfl<|qP rfl rfl rfl<|qM rfl<|qD rfl rfl rfl<|qD rfl rfl rfl<|qD rfl rfl rfl<|qP rfl rfl rfl<|qM rfl<|qD rfl rfl rfl<|qD rfl rfl rfl<|qD rfl rfl rfl<|qP rfl rfl rfl<|qM rfl<|qD rfl rfl rfl<|qD rfl rfl rfl<|qD rfl rfl rfl<|qD rfl rfl rfl<|qD rfl rfl rfl<|qP rfl rfl rfl<|qA rfl<|Nl<|Wz ⟨.inl rfl,_,mt,Rc (Rt0 rfl) (Rv),aM,?_⟩
     exact ⟨by (simp_all [vpk,validP,mostP,retOf])<;>omega,rfl⟩
   ·
    try (have hb16p:=of_decide_eq_false hb16)
    try (have hb16q:=ne_of_beq_false hb16)
    refine qD rfl hb16 rfl<|qD rfl hb16 rfl<|qD rfl hb16 rfl<|qD rfl hb16 rfl<|qD rfl hb16 rfl<|qD rfl hb16 rfl<|qD rfl hb16 rfl<|qP rfl hb16 rfl<|qM rfl<|qD rfl rfl rfl<|qD rfl rfl rfl<|qD rfl rfl rfl<|qP rfl rfl rfl<|qM rfl<|qD rfl rfl rfl<|qD rfl rfl rfl<|qD rfl rfl rfl<|qP rfl rfl rfl<|qM rfl<|qD rfl rfl rfl<|qD rfl rfl rfl<|qD rfl rfl rfl<|qP rfl rfl rfl<|qM rfl<|qD rfl rfl rfl<|qD rfl rfl rfl<|qD rfl rfl rfl<|qP rfl rfl rfl<|qM rfl<|qD rfl rfl rfl<|qD rfl rfl rfl<|qD rfl rfl rfl<|qD rfl rfl rfl<|qD rfl rfl rfl<|qP rfl rfl rfl<|qA rfl<|Nl<|Wz ⟨.inl rfl,_,mt,Rc (Rt0 rfl) (Rv),aM,?_⟩
    exact ⟨by (simp_all [vpk,validP,mostP,retOf])<;>omega,rfl⟩
  ·
   try (have hb15p:=of_decide_eq_false hb15)
   try (have hb15q:=ne_of_beq_false hb15)
   refine qD rfl hb15 rfl<|qD rfl hb15 rfl<|qD rfl hb15 rfl<|qP rfl hb15 rfl<|qM rfl<|qD rfl rfl rfl<|qD rfl rfl rfl<|qD rfl rfl rfl<|qD rfl rfl rfl<|qD rfl rfl rfl<|qD rfl rfl rfl<|qD rfl rfl rfl<|qP rfl rfl rfl<|qM rfl<|qD rfl rfl rfl<|qD rfl rfl rfl<|qD rfl rfl rfl<|qP rfl rfl rfl<|qM rfl<|qD rfl rfl rfl<|qD rfl rfl rfl<|qD rfl rfl rfl<|qP rfl rfl rfl<|qM rfl<|qD rfl rfl rfl<|qD rfl rfl rfl<|qD rfl rfl rfl<|qP rfl rfl rfl<|qM rfl<|qD rfl rfl rfl<|qD rfl rfl rfl<|qD rfl rfl rfl<|qP rfl rfl rfl<|qM rfl<|qD rfl rfl rfl<|qD rfl rfl rfl<|qD rfl rfl rfl<|qD rfl rfl rfl<|qD rfl rfl rfl<|qP rfl rfl rfl<|qA rfl<|Nl<|Wz ⟨.inl rfl,_,mt,Rc (Rt0 rfl) (Rv),aM,?_⟩
   exact ⟨by (simp_all [vpk,validP,mostP,retOf])<;>omega,rfl⟩
 ·
  try (have hb14p:=of_decide_eq_false hb14)
  try (have hb14q:=ne_of_beq_false hb14)
  refine Wu<|Wq<|qW 23 68 rfl<|qF rfl ty83 rfl<|qG rfl ty54 rfl (Tl rfl)<|qY rfl (hav _) fok174 rfl<|qM rfl<|RW.split (t:=10) rfl (fun hb22=>?_) (fun hb22=>?_)
  ·
   try (have hb22p:=of_decide_eq_true hb22)
   try (have hb22q:=eq_of_beq hb22)
   refine gF rfl hb22 ty83 rfl<|gG rfl hb22 ty54 rfl (Tl rfl)<|gY rfl hb22 (hav _) fok174 rfl<|qT rfl hb22 rfl<|qM rfl<|RW.split (t:=15) rfl (fun hb23=>?_) (fun hb23=>?_)
   ·
    try (have hb23p:=of_decide_eq_true hb23)
    try (have hb23q:=eq_of_beq hb23)
    refine gF rfl hb23 ty83 rfl<|gF rfl hb23 ty54 rfl<|gL rfl hb23 ty4 rfl<|gF rfl hb23 ty83 rfl<|gF rfl hb23 ty54 rfl<|gL rfl hb23 ty4 rfl<|qU rfl hb23 rfl (LO.eql_bool rfl rfl rfl ty4)<|qT rfl hb23 rfl<|qM rfl<|RW.split (t:=24) rfl (fun hb24=>?_) (fun hb24=>?_)
    ·
     try (have hb24p:=of_decide_eq_true hb24)
     try (have hb24q:=eq_of_beq hb24)
     refine gF rfl hb24 ty83 rfl<|gL rfl hb24 ty3 rfl<|gGe rfl hb24<|qT rfl hb24 rfl<|qM rfl<|RW.split (t:=29) rfl (fun hb25=>?_) (fun hb25=>?_)
     ·
      try (have hb25p:=of_decide_eq_true hb25)
      try (have hb25q:=eq_of_beq hb25)
      refine gF rfl hb25 ty83 rfl<|gL rfl hb25 ty3 rfl<|gLe rfl hb25<|qT rfl hb25 rfl<|qM rfl<|RW.split (t:=34) rfl (fun hb26=>?_) (fun hb26=>?_)
      ·
       try (have hb26p:=of_decide_eq_true hb26)
       try (have hb26q:=eq_of_beq hb26)
       refine gF rfl hb26 ty83 rfl<|gL rfl hb26 ty3 rfl<|gGe rfl hb26<|qT rfl hb26 rfl<|qM rfl<|RW.split (t:=39) rfl (fun hb27=>?_) (fun hb27=>?_)
       ·
        try (have hb27p:=of_decide_eq_true hb27)
        try (have hb27q:=eq_of_beq hb27)
        refine gF rfl hb27 ty83 rfl<|gL rfl hb27 ty3 rfl<|gLe rfl hb27<|qT rfl hb27 rfl<|qM rfl<|RW.split (t:=44) rfl (fun hb28=>?_) (fun hb28=>?_)
        ·
         try (have hb28p:=of_decide_eq_true hb28)
         try (have hb28q:=eq_of_beq hb28)
         refine gF rfl hb28 ty83 rfl<|gL rfl hb28 ty24 rfl<|gH rfl hb28 ty24<|gM rfl hb28<|gLe rfl hb28<|qT rfl hb28 rfl<|qA rfl<|Nl<|Wz ⟨.inl rfl,_,mt,Rc (Rt0 rfl) (Rv),aM,?_⟩
         exact ⟨by (simp_all [vpk,validP,mostP,retOf])<;>omega,rfl⟩
        ·
         try (have hb28p:=of_decide_eq_false hb28)
         try (have hb28q:=ne_of_beq_false hb28)
         refine qD rfl hb28 rfl<|qD rfl hb28 rfl<|qD rfl hb28 rfl<|qD rfl hb28 rfl<|qD rfl hb28 rfl<|qP rfl hb28 rfl<|qA rfl<|Nl<|Wz ⟨.inl rfl,_,mt,Rc (Rt0 rfl) (Rv),aM,?_⟩
         exact ⟨by (simp_all [vpk,validP,mostP,retOf])<;>omega,rfl⟩
       ·
        try (have hb27p:=of_decide_eq_false hb27)
        try (have hb27q:=ne_of_beq_false hb27)
        refine qD rfl hb27 rfl<|qD rfl hb27 rfl<|qD rfl hb27 rfl<|qP rfl hb27 rfl<|qM rfl<|qD rfl rfl rfl<|qD rfl rfl rfl<|qD rfl rfl rfl<|qD rfl rfl rfl<|qD rfl rfl rfl<|qP rfl rfl rfl<|qA rfl<|Nl<|Wz ⟨.inl rfl,_,mt,Rc (Rt0 rfl) (Rv),aM,?_⟩
        exact ⟨by (simp_all [vpk,validP,mostP,retOf])<;>omega,rfl⟩
      ·
       try (have hb26p:=of_decide_eq_false hb26)
       try (have hb26q:=ne_of_beq_false hb26)
       refine qD rfl hb26 rfl<|qD rfl hb26 rfl<|qD rfl hb26 rfl<|qP rfl hb26 rfl<|qM rfl<|qD rfl rfl rfl<|qD rfl rfl rfl<|qD rfl rfl rfl<|qP rfl rfl rfl<|qM rfl<|qD rfl rfl rfl<|qD rfl rfl rfl<|qD rfl rfl rfl<|qD rfl rfl rfl<|qD rfl rfl rfl<|qP rfl rfl rfl<|qA rfl<|Nl<|Wz ⟨.inl rfl,_,mt,Rc (Rt0 rfl) (Rv),aM,?_⟩
       exact ⟨by (simp_all [vpk,validP,mostP,retOf])<;>omega,rfl⟩
     ·
      try (have hb25p:=of_decide_eq_false hb25)
      try (have hb25q:=ne_of_beq_false hb25)
      refine qD rfl hb25 rfl<|qD rfl hb25 rfl<|qD rfl hb25 rfl<|qP rfl hb25 rfl<|qM rfl<|qD rfl rfl rfl<|qD rfl rfl rfl<|qD rfl rfl rfl<|qP rfl rfl rfl<|qM rfl<|qD rfl rfl rfl<|qD rfl rfl rfl<|qD rfl rfl rfl<|qP rfl rfl rfl<|qM rfl<|qD rfl rfl rfl<|qD rfl rfl rfl<|qD rfl rfl rfl<|qD rfl rfl rfl<|qD rfl rfl rfl<|qP rfl rfl rfl<|qA rfl<|Nl<|Wz ⟨.inl rfl,_,mt,Rc (Rt0 rfl) (Rv),aM,?_⟩
      exact ⟨by (simp_all [vpk,validP,mostP,retOf])<;>omega,rfl⟩
    ·
     try (have hb24p:=of_decide_eq_false hb24)
     try (have hb24q:=ne_of_beq_false hb24)
     refine qD rfl hb24 rfl<|qD rfl hb24 rfl<|qD rfl hb24 rfl<|qP rfl hb24 rfl<|qM rfl<|qD rfl rfl rfl<|qD rfl rfl rfl<|qD rfl rfl rfl<|qP rfl rfl rfl<|qM rfl<|qD rfl rfl rfl<|qD rfl rfl rfl<|qD rfl rfl rfl<|qP rfl rfl rfl<|qM rfl<|qD rfl rfl rfl<|qD rfl rfl rfl<|qD rfl rfl rfl<|qP rfl rfl rfl<|qM rfl<|qD rfl rfl rfl<|qD rfl rfl rfl<|qD rfl rfl rfl<|qD rfl rfl rfl<|qD rfl rfl rfl<|qP rfl rfl rfl<|qA rfl<|Nl<|Wz ⟨.inl rfl,_,mt,Rc (Rt0 rfl) (Rv),aM,?_⟩
     exact ⟨by (simp_all [vpk,validP,mostP,retOf])<;>omega,rfl⟩
   ·
    try (have hb23p:=of_decide_eq_false hb23)
    try (have hb23q:=ne_of_beq_false hb23)
    refine qD rfl hb23 rfl<|qD rfl hb23 rfl<|qD rfl hb23 rfl<|qD rfl hb23 rfl<|qD rfl hb23 rfl<|qD rfl hb23 rfl<|qD rfl hb23 rfl<|qP rfl hb23 rfl<|qM rfl<|qD rfl rfl rfl<|qD rfl rfl rfl<|qD rfl rfl rfl<|qP rfl rfl rfl<|qM rfl<|qD rfl rfl rfl<|qD rfl rfl rfl<|qD rfl rfl rfl<|qP rfl rfl rfl<|qM rfl<|qD rfl rfl rfl<|qD rfl rfl rfl<|qD rfl rfl rfl<|qP rfl rfl rfl<|qM rfl<|qD rfl rfl rfl<|qD rfl rfl rfl<|qD rfl rfl rfl<|qP rfl rfl rfl<|qM rfl<|qD rfl rfl rfl<|qD rfl rfl rfl<|qD rfl rfl rfl<|qD rfl rfl rfl<|qD rfl rfl rfl<|qP rfl rfl rfl<|qA rfl<|Nl<|Wz ⟨.inl rfl,_,mt,Rc (Rt0 rfl) (Rv),aM,?_⟩
    exact ⟨by (simp_all [vpk,validP,mostP,retOf])<;>omega,rfl⟩
  ·
   try (have hb22p:=of_decide_eq_false hb22)
   try (have hb22q:=ne_of_beq_false hb22)
   refine qD rfl hb22 rfl<|qD rfl hb22 rfl<|qD rfl hb22 rfl<|qP rfl hb22 rfl<|qM rfl<|qD rfl rfl rfl<|qD rfl rfl rfl<|qD rfl rfl rfl<|qD rfl rfl rfl<|qD rfl rfl rfl<|qD rfl rfl rfl<|qD rfl rfl rfl<|qP rfl rfl rfl<|qM rfl<|qD rfl rfl rfl<|qD rfl rfl rfl<|qD rfl rfl rfl<|qP rfl rfl rfl<|qM rfl<|qD rfl rfl rfl<|qD rfl rfl rfl<|qD rfl rfl rfl<|qP rfl rfl rfl<|qM rfl<|qD rfl rfl rfl<|qD rfl rfl rfl<|qD rfl rfl rfl<|qP rfl rfl rfl<|qM rfl<|qD rfl rfl rfl<|qD rfl rfl rfl<|qD rfl rfl rfl<|qP rfl rfl rfl<|qM rfl<|qD rfl rfl rfl<|qD rfl rfl rfl<|qD rfl rfl rfl<|qD rfl rfl rfl<|qD rfl rfl rfl<|qP rfl rfl rfl<|qA rfl<|Nl<|Wz ⟨.inl rfl,_,mt,Rc (Rt0 rfl) (Rv),aM,?_⟩
   exact ⟨by (simp_all [vpk,validP,mostP,retOf])<;>omega,rfl⟩
theorem rpvalid_any (x:Pk):AFn Tryz.prog 77 0 [.agg (pkC x)] mt (.base (.bool (vpk x))) mt:=by
 refine AFn.eq Tryz.func77 rfl rfl (Nat.le_of_ble_eq_true rfl) ?_
 have hav:=rvalid_any
 unfold adC at hav
 unfold pkC adC
 refine Wq<|qW 0 2 rfl<|qC rfl<|qA rfl<|Nl<|Wq<|qW 6 7 rfl<|qA rfl<|Nl<|Wq<|Wq<|qW 11 14 rfl<|qF rfl ty83 rfl<|qF rfl ty54 rfl<|qL rfl ty4 rfl<|Nl<|W.cond rfl (fun hb29=>?_) (fun hb29=>?_)
 ·
  try (have hb29p:=of_decide_eq_true hb29)
  try (have hb29q:=eq_of_beq hb29)
  refine qW 18 19 rfl<|qA rfl<|Nl<|Wq<|qW 23 68 rfl<|qF rfl ty83 rfl<|qG rfl ty54 rfl (Tl rfl)<|qY rfl (hav _) fok125 rfl<|qM rfl<|RW.split (t:=10) rfl (fun hb30=>?_) (fun hb30=>?_)
  ·
   try (have hb30p:=of_decide_eq_true hb30)
   try (have hb30q:=eq_of_beq hb30)
   refine gF rfl hb30 ty83 rfl<|gG rfl hb30 ty54 rfl (Tl rfl)<|gY rfl hb30 (hav _) fok125 rfl<|qT rfl hb30 rfl<|qM rfl<|RW.split (t:=15) rfl (fun hb31=>?_) (fun hb31=>?_)
   ·
    try (have hb31p:=of_decide_eq_true hb31)
    try (have hb31q:=eq_of_beq hb31)
    refine gF rfl hb31 ty83 rfl<|gF rfl hb31 ty54 rfl<|gL rfl hb31 ty4 rfl<|gF rfl hb31 ty83 rfl<|gF rfl hb31 ty54 rfl<|gL rfl hb31 ty4 rfl<|qU rfl hb31 rfl (LO.eql_bool rfl rfl rfl ty4)<|qT rfl hb31 rfl<|qM rfl<|RW.split (t:=24) rfl (fun hb32=>?_) (fun hb32=>?_)
    ·
     try (have hb32p:=of_decide_eq_true hb32)
     try (have hb32q:=eq_of_beq hb32)
     refine gF rfl hb32 ty83 rfl<|gL rfl hb32 ty3 rfl<|gGe rfl hb32<|qT rfl hb32 rfl<|qM rfl<|RW.split (t:=29) rfl (fun hb33=>?_) (fun hb33=>?_)
     ·
      try (have hb33p:=of_decide_eq_true hb33)
      try (have hb33q:=eq_of_beq hb33)
      refine gF rfl hb33 ty83 rfl<|gL rfl hb33 ty3 rfl<|gLe rfl hb33<|qT rfl hb33 rfl<|qM rfl<|RW.split (t:=34) rfl (fun hb34=>?_) (fun hb34=>?_)
      ·
       try (have hb34p:=of_decide_eq_true hb34)
       try (have hb34q:=eq_of_beq hb34)
       refine gF rfl hb34 ty83 rfl<|gL rfl hb34 ty3 rfl<|gGe rfl hb34<|qT rfl hb34 rfl<|qM rfl<|RW.split (t:=39) rfl (fun hb35=>?_) (fun hb35=>?_)
       ·
        try (have hb35p:=of_decide_eq_true hb35)
        try (have hb35q:=eq_of_beq hb35)
        refine gF rfl hb35 ty83 rfl<|gL rfl hb35 ty3 rfl<|gLe rfl hb35<|qT rfl hb35 rfl<|qM rfl<|RW.split (t:=44) rfl (fun hb36=>?_) (fun hb36=>?_)
        ·
         try (have hb36p:=of_decide_eq_true hb36)
         try (have hb36q:=eq_of_beq hb36)
         refine gF rfl hb36 ty83 rfl<|gL rfl hb36 ty24 rfl<|gH rfl hb36 ty24<|gM rfl hb36<|gLe rfl hb36<|qT rfl hb36 rfl<|qA rfl<|Nl<|Wz ⟨.inl rfl,_,mt,Rc (Rt0 rfl) (Rv),aM,?_⟩
         exact ⟨by (simp_all [vpk,validP,mostP,retOf])<;>omega,rfl⟩
        ·
         try (have hb36p:=of_decide_eq_false hb36)
         try (have hb36q:=ne_of_beq_false hb36)
         refine qD rfl hb36 rfl<|qD rfl hb36 rfl<|qD rfl hb36 rfl<|qD rfl hb36 rfl<|qD rfl hb36 rfl<|qP rfl hb36 rfl<|qA rfl<|Nl<|Wz ⟨.inl rfl,_,mt,Rc (Rt0 rfl) (Rv),aM,?_⟩
         exact ⟨by (simp_all [vpk,validP,mostP,retOf])<;>omega,rfl⟩
       ·
        try (have hb35p:=of_decide_eq_false hb35)
        try (have hb35q:=ne_of_beq_false hb35)
        refine qD rfl hb35 rfl<|qD rfl hb35 rfl<|qD rfl hb35 rfl<|qP rfl hb35 rfl<|qM rfl<|qD rfl rfl rfl<|qD rfl rfl rfl<|qD rfl rfl rfl<|qD rfl rfl rfl<|qD rfl rfl rfl<|qP rfl rfl rfl<|qA rfl<|Nl<|Wz ⟨.inl rfl,_,mt,Rc (Rt0 rfl) (Rv),aM,?_⟩
        exact ⟨by (simp_all [vpk,validP,mostP,retOf])<;>omega,rfl⟩
      ·
       try (have hb34p:=of_decide_eq_false hb34)
       try (have hb34q:=ne_of_beq_false hb34)
       refine qD rfl hb34 rfl<|qD rfl hb34 rfl<|qD rfl hb34 rfl<|qP rfl hb34 rfl<|qM rfl<|qD rfl rfl rfl<|qD rfl rfl rfl<|qD rfl rfl rfl<|qP rfl rfl rfl<|qM rfl<|qD rfl rfl rfl<|qD rfl rfl rfl<|qD rfl rfl rfl<|qD rfl rfl rfl<|qD rfl rfl rfl<|qP rfl rfl rfl<|qA rfl<|Nl<|Wz ⟨.inl rfl,_,mt,Rc (Rt0 rfl) (Rv),aM,?_⟩
       exact ⟨by (simp_all [vpk,validP,mostP,retOf])<;>omega,rfl⟩
     ·
      try (have hb33p:=of_decide_eq_false hb33)
      try (have hb33q:=ne_of_beq_false hb33)
      refine qD rfl hb33 rfl<|qD rfl hb33 rfl<|qD rfl hb33 rfl<|qP rfl hb33 rfl<|qM rfl<|qD rfl rfl rfl<|qD rfl rfl rfl<|qD rfl rfl rfl<|qP rfl rfl rfl<|qM rfl<|qD rfl rfl rfl<|qD rfl rfl rfl<|qD rfl rfl rfl<|qP rfl rfl rfl<|qM rfl<|qD rfl rfl rfl<|qD rfl rfl rfl<|qD rfl rfl rfl<|qD rfl rfl rfl<|qD rfl rfl rfl<|qP rfl rfl rfl<|qA rfl<|Nl<|Wz ⟨.inl rfl,_,mt,Rc (Rt0 rfl) (Rv),aM,?_⟩
      exact ⟨by (simp_all [vpk,validP,mostP,retOf])<;>omega,rfl⟩
    ·
     try (have hb32p:=of_decide_eq_false hb32)
     try (have hb32q:=ne_of_beq_false hb32)
     refine qD rfl hb32 rfl<|qD rfl hb32 rfl<|qD rfl hb32 rfl<|qP rfl hb32 rfl<|qM rfl<|qD rfl rfl rfl<|qD rfl rfl rfl<|qD rfl rfl rfl<|qP rfl rfl rfl<|qM rfl<|qD rfl rfl rfl<|qD rfl rfl rfl<|qD rfl rfl rfl<|qP rfl rfl rfl<|qM rfl<|qD rfl rfl rfl<|qD rfl rfl rfl<|qD rfl rfl rfl<|qP rfl rfl rfl<|qM rfl<|qD rfl rfl rfl<|qD rfl rfl rfl<|qD rfl rfl rfl<|qD rfl rfl rfl<|qD rfl rfl rfl<|qP rfl rfl rfl<|qA rfl<|Nl<|Wz ⟨.inl rfl,_,mt,Rc (Rt0 rfl) (Rv),aM,?_⟩
     exact ⟨by (simp_all [vpk,validP,mostP,retOf])<;>omega,rfl⟩
   ·
    try (have hb31p:=of_decide_eq_false hb31)
    try (have hb31q:=ne_of_beq_false hb31)
    refine qD rfl hb31 rfl<|qD rfl hb31 rfl<|qD rfl hb31 rfl<|qD rfl hb31 rfl<|qD rfl hb31 rfl<|qD rfl hb31 rfl<|qD rfl hb31 rfl<|qP rfl hb31 rfl<|qM rfl<|qD rfl rfl rfl<|qD rfl rfl rfl<|qD rfl rfl rfl<|qP rfl rfl rfl<|qM rfl<|qD rfl rfl rfl<|qD rfl rfl rfl<|qD rfl rfl rfl<|qP rfl rfl rfl<|qM rfl<|qD rfl rfl rfl<|qD rfl rfl rfl<|qD rfl rfl rfl<|qP rfl rfl rfl<|qM rfl<|qD rfl rfl rfl<|qD rfl rfl rfl<|qD rfl rfl rfl<|qP rfl rfl rfl<|qM rfl<|qD rfl rfl rfl<|qD rfl rfl rfl<|qD rfl rfl rfl<|qD rfl rfl rfl<|qD rfl rfl rfl<|qP rfl rfl rfl<|qA rfl<|Nl<|Wz ⟨.inl rfl,_,mt,Rc (Rt0 rfl) (Rv),aM,?_⟩
    exact ⟨by (simp_all [vpk,validP,mostP,retOf])<;>omega,rfl⟩
  ·
   try (have hb30p:=of_decide_eq_false hb30)
   try (have hb30q:=ne_of_beq_false hb30)
   refine qD rfl hb30 rfl<|qD rfl hb30 rfl<|qD rfl hb30 rfl<|qP rfl hb30 rfl<|qM rfl<|qD rfl rfl rfl<|qD rfl rfl rfl<|qD rfl rfl rfl<|qD rfl rfl rfl<|qD rfl rfl rfl<|qD rfl rfl rfl<|qD rfl rfl rfl<|qP rfl rfl rfl<|qM rfl<|qD rfl rfl rfl<|qD rfl rfl rfl<|qD rfl rfl rfl<|qP rfl rfl rfl<|qM rfl<|qD rfl rfl rfl<|qD rfl rfl rfl<|qD rfl rfl rfl<|qP rfl rfl rfl<|qM rfl<|qD rfl rfl rfl<|qD rfl rfl rfl<|qD rfl rfl rfl<|qP rfl rfl rfl<|qM rfl<|qD rfl rfl rfl<|qD rfl rfl rfl<|qD rfl rfl rfl<|qP rfl rfl rfl<|qM rfl<|qD rfl rfl rfl<|qD rfl rfl rfl<|qD rfl rfl rfl<|qD rfl rfl rfl<|qD rfl rfl rfl<|qP rfl rfl rfl<|qA rfl<|Nl<|Wz ⟨.inl rfl,_,mt,Rc (Rt0 rfl) (Rv),aM,?_⟩
   exact ⟨by (simp_all [vpk,validP,mostP,retOf])<;>omega,rfl⟩
 ·
  try (have hb29p:=of_decide_eq_false hb29)
  try (have hb29q:=ne_of_beq_false hb29)
  refine Wu<|Wq<|qW 23 68 rfl<|qF rfl ty83 rfl<|qG rfl ty54 rfl (Tl rfl)<|qY rfl (hav _) fok125 rfl<|qM rfl<|RW.split (t:=10) rfl (fun hb37=>?_) (fun hb37=>?_)
  ·
   try (have hb37p:=of_decide_eq_true hb37)
   try (have hb37q:=eq_of_beq hb37)
   refine gF rfl hb37 ty83 rfl<|gG rfl hb37 ty54 rfl (Tl rfl)<|gY rfl hb37 (hav _) fok125 rfl<|qT rfl hb37 rfl<|qM rfl<|RW.split (t:=15) rfl (fun hb38=>?_) (fun hb38=>?_)
   ·
    try (have hb38p:=of_decide_eq_true hb38)
    try (have hb38q:=eq_of_beq hb38)
    refine gF rfl hb38 ty83 rfl<|gF rfl hb38 ty54 rfl<|gL rfl hb38 ty4 rfl<|gF rfl hb38 ty83 rfl<|gF rfl hb38 ty54 rfl<|gL rfl hb38 ty4 rfl<|qU rfl hb38 rfl (LO.eql_bool rfl rfl rfl ty4)<|qT rfl hb38 rfl<|qM rfl<|RW.split (t:=24) rfl (fun hb39=>?_) (fun hb39=>?_)
    ·
     try (have hb39p:=of_decide_eq_true hb39)
     try (have hb39q:=eq_of_beq hb39)
     refine gF rfl hb39 ty83 rfl<|gL rfl hb39 ty3 rfl<|gGe rfl hb39<|qT rfl hb39 rfl<|qM rfl<|RW.split (t:=29) rfl (fun hb40=>?_) (fun hb40=>?_)
     ·
      try (have hb40p:=of_decide_eq_true hb40)
      try (have hb40q:=eq_of_beq hb40)
      refine gF rfl hb40 ty83 rfl<|gL rfl hb40 ty3 rfl<|gLe rfl hb40<|qT rfl hb40 rfl<|qM rfl<|RW.split (t:=34) rfl (fun hb41=>?_) (fun hb41=>?_)
      ·
       try (have hb41p:=of_decide_eq_true hb41)
       try (have hb41q:=eq_of_beq hb41)
       refine gF rfl hb41 ty83 rfl<|gL rfl hb41 ty3 rfl<|gGe rfl hb41<|qT rfl hb41 rfl<|qM rfl<|RW.split (t:=39) rfl (fun hb42=>?_) (fun hb42=>?_)
       ·
        try (have hb42p:=of_decide_eq_true hb42)
        try (have hb42q:=eq_of_beq hb42)
        refine gF rfl hb42 ty83 rfl<|gL rfl hb42 ty3 rfl<|gLe rfl hb42<|qT rfl hb42 rfl<|qM rfl<|RW.split (t:=44) rfl (fun hb43=>?_) (fun hb43=>?_)
        ·
         try (have hb43p:=of_decide_eq_true hb43)
         try (have hb43q:=eq_of_beq hb43)
         refine gF rfl hb43 ty83 rfl<|gL rfl hb43 ty24 rfl<|gH rfl hb43 ty24<|gM rfl hb43<|gLe rfl hb43<|qT rfl hb43 rfl<|qA rfl<|Nl<|Wz ⟨.inl rfl,_,mt,Rc (Rt0 rfl) (Rv),aM,?_⟩
         exact ⟨by (simp_all [vpk,validP,mostP,retOf])<;>omega,rfl⟩
        ·
         try (have hb43p:=of_decide_eq_false hb43)
         try (have hb43q:=ne_of_beq_false hb43)
         refine qD rfl hb43 rfl<|qD rfl hb43 rfl<|qD rfl hb43 rfl<|qD rfl hb43 rfl<|qD rfl hb43 rfl<|qP rfl hb43 rfl<|qA rfl<|Nl<|Wz ⟨.inl rfl,_,mt,Rc (Rt0 rfl) (Rv),aM,?_⟩
         exact ⟨by (simp_all [vpk,validP,mostP,retOf])<;>omega,rfl⟩
       ·
        try (have hb42p:=of_decide_eq_false hb42)
        try (have hb42q:=ne_of_beq_false hb42)
        refine qD rfl hb42 rfl<|qD rfl hb42 rfl<|qD rfl hb42 rfl<|qP rfl hb42 rfl<|qM rfl<|qD rfl rfl rfl<|qD rfl rfl rfl<|qD rfl rfl rfl<|qD rfl rfl rfl<|qD rfl rfl rfl<|qP rfl rfl rfl<|qA rfl<|Nl<|Wz ⟨.inl rfl,_,mt,Rc (Rt0 rfl) (Rv),aM,?_⟩
        exact ⟨by (simp_all [vpk,validP,mostP,retOf])<;>omega,rfl⟩
      ·
       try (have hb41p:=of_decide_eq_false hb41)
       try (have hb41q:=ne_of_beq_false hb41)
       refine qD rfl hb41 rfl<|qD rfl hb41 rfl<|qD rfl hb41 rfl<|qP rfl hb41 rfl<|qM rfl<|qD rfl rfl rfl<|qD rfl rfl rfl<|qD rfl rfl rfl<|qP rfl rfl rfl<|qM rfl<|qD rfl rfl rfl<|qD rfl rfl rfl<|qD rfl rfl rfl<|qD rfl rfl rfl<|qD rfl rfl rfl<|qP rfl rfl rfl<|qA rfl<|Nl<|Wz ⟨.inl rfl,_,mt,Rc (Rt0 rfl) (Rv),aM,?_⟩
       exact ⟨by (simp_all [vpk,validP,mostP,retOf])<;>omega,rfl⟩
     ·
      try (have hb40p:=of_decide_eq_false hb40)
      try (have hb40q:=ne_of_beq_false hb40)
      refine qD rfl hb40 rfl<|qD rfl hb40 rfl<|qD rfl hb40 rfl<|qP rfl hb40 rfl<|qM rfl<|qD rfl rfl rfl<|qD rfl rfl rfl<|qD rfl rfl rfl<|qP rfl rfl rfl<|qM rfl<|qD rfl rfl rfl<|qD rfl rfl rfl<|qD rfl rfl rfl<|qP rfl rfl rfl<|qM rfl<|qD rfl rfl rfl<|qD rfl rfl rfl<|qD rfl rfl rfl<|qD rfl rfl rfl<|qD rfl rfl rfl<|qP rfl rfl rfl<|qA rfl<|Nl<|Wz ⟨.inl rfl,_,mt,Rc (Rt0 rfl) (Rv),aM,?_⟩
      exact ⟨by (simp_all [vpk,validP,mostP,retOf])<;>omega,rfl⟩
    ·
     try (have hb39p:=of_decide_eq_false hb39)
     try (have hb39q:=ne_of_beq_false hb39)
     refine qD rfl hb39 rfl<|qD rfl hb39 rfl<|qD rfl hb39 rfl<|qP rfl hb39 rfl<|qM rfl<|qD rfl rfl rfl<|qD rfl rfl rfl<|qD rfl rfl rfl<|qP rfl rfl rfl<|qM rfl<|qD rfl rfl rfl<|qD rfl rfl rfl<|qD rfl rfl rfl<|qP rfl rfl rfl<|qM rfl<|qD rfl rfl rfl<|qD rfl rfl rfl<|qD rfl rfl rfl<|qP rfl rfl rfl<|qM rfl<|qD rfl rfl rfl<|qD rfl rfl rfl<|qD rfl rfl rfl<|qD rfl rfl rfl<|qD rfl rfl rfl<|qP rfl rfl rfl<|qA rfl<|Nl<|Wz ⟨.inl rfl,_,mt,Rc (Rt0 rfl) (Rv),aM,?_⟩
     exact ⟨by (simp_all [vpk,validP,mostP,retOf])<;>omega,rfl⟩
   ·
    try (have hb38p:=of_decide_eq_false hb38)
    try (have hb38q:=ne_of_beq_false hb38)
    refine qD rfl hb38 rfl<|qD rfl hb38 rfl<|qD rfl hb38 rfl<|qD rfl hb38 rfl<|qD rfl hb38 rfl<|qD rfl hb38 rfl<|qD rfl hb38 rfl<|qP rfl hb38 rfl<|qM rfl<|qD rfl rfl rfl<|qD rfl rfl rfl<|qD rfl rfl rfl<|qP rfl rfl rfl<|qM rfl<|qD rfl rfl rfl<|qD rfl rfl rfl<|qD rfl rfl rfl<|qP rfl rfl rfl<|qM rfl<|qD rfl rfl rfl<|qD rfl rfl rfl<|qD rfl rfl rfl<|qP rfl rfl rfl<|qM rfl<|qD rfl rfl rfl<|qD rfl rfl rfl<|qD rfl rfl rfl<|qP rfl rfl rfl<|qM rfl<|qD rfl rfl rfl<|qD rfl rfl rfl<|qD rfl rfl rfl<|qD rfl rfl rfl<|qD rfl rfl rfl<|qP rfl rfl rfl<|qA rfl<|Nl<|Wz ⟨.inl rfl,_,mt,Rc (Rt0 rfl) (Rv),aM,?_⟩
    exact ⟨by (simp_all [vpk,validP,mostP,retOf])<;>omega,rfl⟩
  ·
   try (have hb37p:=of_decide_eq_false hb37)
   try (have hb37q:=ne_of_beq_false hb37)
   refine qD rfl hb37 rfl<|qD rfl hb37 rfl<|qD rfl hb37 rfl<|qP rfl hb37 rfl<|qM rfl<|qD rfl rfl rfl<|qD rfl rfl rfl<|qD rfl rfl rfl<|qD rfl rfl rfl<|qD rfl rfl rfl<|qD rfl rfl rfl<|qD rfl rfl rfl<|qP rfl rfl rfl<|qM rfl<|qD rfl rfl rfl<|qD rfl rfl rfl<|qD rfl rfl rfl<|qP rfl rfl rfl<|qM rfl<|qD rfl rfl rfl<|qD rfl rfl rfl<|qD rfl rfl rfl<|qP rfl rfl rfl<|qM rfl<|qD rfl rfl rfl<|qD rfl rfl rfl<|qD rfl rfl rfl<|qP rfl rfl rfl<|qM rfl<|qD rfl rfl rfl<|qD rfl rfl rfl<|qD rfl rfl rfl<|qP rfl rfl rfl<|qM rfl<|qD rfl rfl rfl<|qD rfl rfl rfl<|qD rfl rfl rfl<|qD rfl rfl rfl<|qD rfl rfl rfl<|qP rfl rfl rfl<|qA rfl<|Nl<|Wz ⟨.inl rfl,_,mt,Rc (Rt0 rfl) (Rv),aM,?_⟩
   exact ⟨by (simp_all [vpk,validP,mostP,retOf])<;>omega,rfl⟩
end Go.Proofs.YtlcndmciognneaaGreatDoor
namespace Go.Proofs.YtlcndmciognneaaGreatDoor
open Go.ChangeShapes Go.WideShapes Go.ChangeAt Go.RowKit
section
variable {H:Type} {enc:TypeId × Value→H}
end
end Go.Proofs.YtlcndmciognneaaGreatDoor
namespace Go.Proofs.YtlcndmciognneaaGreatDoor
open Go.RowKit
structure Prt where
 id:Int
 sw:Int
 speed:Int
 macs:List (List Int)
 v4:Ad
 v6:Ad
structure Mem where
 asn:Int
 name:ByteArray
 set:ByteArray
 max4:Int
 max6:Int
 ports:List Prt
structure Pre where
 ad:Ad
 len:Int
structure Db where
 lan4:Pre
 lan6:Pre
 servers:List Mem
 members:List Mem
def macsC (l:List (List Int)):List AV:=l.flatMap bytesC
def prtC (p:Prt):List AV:=[.base (.int .i64 p.id),.base (.int .i64 p.sw),.base (.int .i64 p.speed),.isl (macsC p.macs) p.macs.length]++adC p.v4++adC p.v6
def prtsC (l:List Prt):List AV:=l.flatMap prtC
def memC (m:Mem):List AV:=[.base (.int .i64 m.asn),.base (.string m.name),.base (.string m.set),.base (.int .i64 m.max4),.base (.int .i64 m.max6),.isl (prtsC m.ports) m.ports.length]
def memsC (l:List Mem):List AV:=l.flatMap memC
def preC (p:Pre):List AV:=adC p.ad++[.base (.int .i64 p.len)]
def dbC (d:Db):List AV:=preC d.lan4++preC d.lan6++[.isl (memsC d.servers) d.servers.length,.isl (memsC d.members) d.members.length]
theorem flat_tk {α:Type} {c:α→List AV} {n:Nat} (hc:∀ x,(c x).length=n) {l:List α} {k:Nat} (h:k < l.length):Tk (l.flatMap c) (k * n) n (c l[k]):=by
 refine ⟨hc _,fun j d hj=>?_⟩
 have hjn:j < n:=by have:=(List.getElem?_eq_some_iff.1 hj).1;rwa [hc] at this
 induction l generalizing k with
 | nil=>simp at h
 | cons x l ih =>
  rw [List.flatMap_cons]
  cases k with
  | zero =>
   rw [Nat.zero_mul,Nat.zero_add,List.getElem?_append_left (by rw [hc];exact hjn)]
   simpa using hj
  | succ k =>
   rw [show (k + 1) * n + j=n + (k * n + j) from by rw [Nat.succ_mul];omega]
   rw [List.getElem?_append_right (by rw [hc];omega),hc,show n + (k * n + j) - n=k * n + j from by omega]
   exact ih (by simpa using h) (by simpa using hj)
theorem prts_tk {l:List Prt} {k:Nat} (h:k < l.length):Tk (prtsC l) (k * 10) 10 (prtC l[k]):=flat_tk (c:=prtC) (fun _=>rfl) h
theorem mems_tk {l:List Mem} {k:Nat} (h:k < l.length):Tk (memsC l) (k * 6) 6 (memC l[k]):=flat_tk (c:=memC) (fun _=>rfl) h
theorem macs_tk {l:List (List Int)} (hl:∀ m,m∈l→m.length=6) {k:Nat} (h:k < l.length):Tk (macsC l) (k * 6) 6 (bytesC l[k]):=by
 have key:∀ (q:List (List Int)) (k:Nat) (h:k < q.length),(∀ m,m∈q→m.length=6)→∀ (j:Nat) d,(bytesC q[k])[j]?=some d→(macsC q)[k * 6 + j]?=some d:=by
  intro q
  induction q with
  | nil=>intro k h;simp at h
  | cons x q ih =>
   intro k h hq j d hj
   have hx:(bytesC x).length=6:=by rw [bytesC_len];exact hq x (by simp)
   have hjn:j < 6:=by
    have h1:=(List.getElem?_eq_some_iff.1 hj).1
    rw [bytesC_len,hq _ (List.getElem_mem h)] at h1
    exact h1
   show (bytesC x++macsC q)[k * 6 + j]?=some d
   cases k with
   | zero =>
    rw [Nat.zero_mul,Nat.zero_add,List.getElem?_append_left (by rw [hx];exact hjn)]
    simpa using hj
   | succ k =>
    rw [List.getElem?_append_right (by rw [hx];omega),hx,show (k + 1) * 6 + j - 6=k * 6 + j from by omega]
    exact ih k (by simpa using h) (fun m hm=>hq m (by simp [hm])) j d (by simpa using hj)
 exact ⟨by rw [bytesC_len];exact hl _ (List.getElem_mem h),key l k h hl⟩
def macV (m:List Int):Value:=.agg (m.map fun x=>Value.int .u8 x).toArray
def adV (a:Ad):Value:=.agg [.bool a.v6,.int .u64 a.hi,.int .u64 a.lo].toArray
theorem kv_mac (m:List Int):KV (.agg (bytesC m)) (macV m):=by
 have:=KV.agg (m.map fun x=>Value.int .u8 x)
 rw [List.map_map] at this
 exact this
theorem kv_ad (a:Ad):KV (.agg (adC a)) (adV a):=KV.agg [.bool a.v6,.int .u64 a.hi,.int .u64 a.lo]
theorem Tryz.laid11:laidOutB Tryz.prog=true:=by kernel_rfl
theorem mk_mac:MKey Tryz.prog 23 (kdOf Tryz.prog 23):=mk_agg Tryz.laid11 (of_decide_eq_true (by kernel_rfl)) (by kernel_rfl) (by kernel_rfl)
theorem mk_ad:MKey Tryz.prog 54 (kdOf Tryz.prog 54):=mk_agg Tryz.laid11 (of_decide_eq_true (by kernel_rfl)) (by kernel_rfl) (by kernel_rfl)
theorem wf_u8 {x:Int} (h0:0≤x) (h1:x≤255):(Lit.int .u8 x).wf=true:=by
 unfold Lit.wf
 simp only [IntKind.min,IntKind.max,IntKind.signed,IntKind.bits,Bool.and_eq_true]
 constructor
 ·simpa using h0
 ·have:x≤(2 ^ 8:Int) - 1:=by omega
  simpa using this
theorem wf_u64 {x:Int} (h0:0≤x) (h1:x≤18446744073709551615):(Lit.int .u64 x).wf=true:=by
 unfold Lit.wf
 simp only [IntKind.min,IntKind.max,IntKind.signed,IntKind.bits,Bool.and_eq_true]
 constructor
 ·simpa using h0
 ·have:x≤(2 ^ 64:Int) - 1:=by omega
  simpa using this
theorem kd_mac {m:List Int} (hl:m.length=6) (hb:∀ x,x∈m→0≤x∧x≤255):kdOf Tryz.prog 23 (macV m):=by
 refine kd_agg (by kernel_rfl) (by kernel_rfl) (by rw [show Tryz.prog.cellsOf 23=6 from by kernel_rfl];simp [hl]) ?_
 obtain ⟨d,hd⟩:∃ d,Tryz.prog.types.size=d + 1:=⟨_,show Tryz.prog.types.size=(Tryz.prog.types.size - 1) + 1 from by kernel_rfl⟩
 rw [hd,List.toList_toArray]
 exact lits_arr (e:=5) (n:=6) (q:=.u8) (by kernel_rfl) (by kernel_rfl) (by kernel_rfl) (by kernel_rfl) hl (fun x hx=>wf_u8 (hb x hx).1 (hb x hx).2) d
noncomputable def fsAd:Array Field:=match Tryz.prog.underlying 54 with
 | some (.struct fs)=>fs
 | _=>#[]
theorem fields_ad : ∃ f1 f2 f3 : Field, Tryz.prog.underlying 54 = some (.struct #[f1, f2, f3]) ∧ f1.offset = 0 ∧ f2.offset = 1 ∧ f3.offset = 2 ∧ f1.type = 4 ∧ f2.type = 52 ∧ f3.type = 52 ∧ (f1.name != "_") = true ∧ (f2.name != "_") = true ∧ (f3.name != "_") = true :=
 ⟨fsAd[0]!,fsAd[1]!,fsAd[2]!,by kernel_rfl,by kernel_rfl,by kernel_rfl,by kernel_rfl,by kernel_rfl,by kernel_rfl,by kernel_rfl,by kernel_rfl,by kernel_rfl,by kernel_rfl⟩
theorem kd_ad {a:Ad} (h0:0≤a.hi∧a.hi≤18446744073709551615) (h1:0≤a.lo∧a.lo≤18446744073709551615):kdOf Tryz.prog 54 (adV a):=by
 refine kd_agg (by kernel_rfl) (by kernel_rfl) (by rw [show Tryz.prog.cellsOf 54=3 from by kernel_rfl];rfl) ?_
 obtain ⟨d,hd⟩:∃ d,Tryz.prog.types.size=d + 1:=⟨_,show Tryz.prog.types.size=(Tryz.prog.types.size - 1) + 1 from by kernel_rfl⟩
 obtain ⟨f1,f2,f3,hf,o1,o2,o3,t1,t2,t3,n1,n2,n3⟩:=fields_ad
 rw [hd]
 have c3:Tryz.prog.cellsOf 54=3:=by kernel_rfl
 have cb:Tryz.prog.cellsOf 4=1:=by kernel_rfl
 have cu:Tryz.prog.cellsOf 52=1:=by kernel_rfl
 unfold Program.keyLits
 rw [hf]
 have l1:=lits_bool (P:=Tryz.prog) (t:=4) (by kernel_rfl) a.v6 d
 have l2:=lits_int (P:=Tryz.prog) (t:=52) (q:=.u64) (by kernel_rfl) (wf_u64 h0.1 h0.2) d
 have l3:=lits_int (P:=Tryz.prog) (t:=52) (q:=.u64) (by kernel_rfl) (wf_u64 h1.1 h1.2) d
 simp [c3,n1,n2,n3,o1,o2,o3,t1,t2,t3,cb,cu,l1,l2,l3,List.mapM_cons]
end Go.Proofs.YtlcndmciognneaaGreatDoor
namespace Go.Proofs.YtlcndmciognneaaGreatDoor
open Go.RowKit
theorem rep_bases {X:Nat→Prop} {w:World} {φ:Em} {v:Value} {us:List Value} (h:Rep X w φ v (.agg (us.map AV.base))):v=.agg us.toArray:=by
 cases h with
 | agg vs _ hl h1 h =>
  have hl2:vs.size=us.length:=by simpa using hl
  congr 1
  refine Array.ext (by simpa using hl2) fun i h2 h3=>?_
  have h4:i < us.length:=by simpa using h3
  have:=h i vs[i] (.base us[i]) (by simp [h2]) (by simp [h4])
  simpa using this.base_eq
theorem LO.eq_bases {P:Program} {o:Oper} {E:Operand→Option AV} {H:Hp} {f:Nat} {t ty:TypeId} {x y:Operand} {r:Bool} (neg:Bool) (us vs:List Value) {xs ys:List AV} (ho:o.op=.binOp (if neg then .neq else .eql) t x y ty) (hx:E x=some (.agg xs)) (hy:E y=some (.agg ys)) (e1:xs=us.map AV.base) (e2:ys=vs.map AV.base)
 (hg:∀ w,(eqGuard (if neg then .neq else .eql) t x y (.agg us.toArray) (.agg vs.toArray)).run P w=.ok () w) (h:∀ w,(Op.equal t (.agg us.toArray) (.agg vs.toArray)).run P w=.ok r w):LO P o E H f [] [] (.base (.bool (if neg then !r else r))) H:=by
 subst e1 e2
 refine .pure fun X φ w ρ hR=>?_
 have h1:=rep_bases (hR x (by simp [ho,Op.operands]) _ hx)
 have h2:=rep_bases (hR y (by simp [ho,Op.operands]) _ hy)
 refine ⟨.bool (if neg then !r else r),?_,.base _⟩
 cases neg
 ·have hg2:=hg w
  simp only [Bool.false_eq_true,if_false] at hg2 ho
  simp [execOp,ho,h1,h2,hg2,Go.binOp,h]
 ·have hg2:=hg w
  simp only [if_true] at hg2 ho
  simp [execOp,ho,h1,h2,hg2,Go.binOp,h]
theorem guard_run {t:TypeId} {us vs:Array Value} (x y:Operand) (b:Bool) (h:Tryz.prog.eqGuardType Tryz.prog.depth t=false) (w:World):(eqGuard (if b then .neq else .eql) t x y (.agg us) (.agg vs)).run Tryz.prog w=.ok () w:=by
 cases b<;>simp [eqGuard,h]
def eqA (a b:Ad):Bool:=a.v6 == b.v6 && (a.hi == b.hi && a.lo == b.lo)
theorem eqA_iff {a b:Ad}:eqA a b=true↔a=b:=by
 obtain ⟨a1,a2,a3⟩:=a
 obtain ⟨b1,b2,b3⟩:=b
 simp [eqA]
theorem eqAd_in (d:Nat) (a b:Ad) (w:World):(Op.equalIn (d + 2) 54 (.agg #[.bool a.v6,.int .u64 a.hi,.int .u64 a.lo]) (.agg #[.bool b.v6,.int .u64 b.hi,.int .u64 b.lo])).run Tryz.prog w=.ok (eqA a b) w:=by
 rw [run_equalIn_struct w (d + 1) 54 _ _ (by kernel_rfl) (by kernel_rfl)]
 have hu:=Tryz.underlying54
 have hb:=Tryz.underlying4
 have hi:=Tryz.underlying52
 simp [Program.fieldsOf,hu,Op.eqFields,part,isAgg,run_underlying hb,run_underlying hi,run_equalIn_bool' _ _ _ _ _ hb,run_equalIn_int _ _ _ _ _ _ _ hi]
 unfold eqA
 by_cases h1:a.v6=b.v6<;>by_cases h2:a.hi=b.hi<;>by_cases h3:a.lo=b.lo<;>simp [h1,h2,h3]
theorem eqMac_in (d:Nat) {a b:List Int} (ha:a.length=6) (hb:b.length=6) (w:World):(Op.equalIn (d + 2) 23 (.agg (a.map (Value.int .u8)).toArray) (.agg (b.map (Value.int .u8)).toArray)).run Tryz.prog w=.ok (decide (a=b)) w:=by
 have hu:=Tryz.underlying23
 have hi:=Tryz.underlying5
 match a,ha,b,hb with
 | [a0,a1,a2,a3,a4,a5],_,[b0,b1,b2,b3,b4,b5],_ =>
  have hsz:∀ w:World,(sizeOf 5).run Tryz.prog w=.ok 1 w:=fun w=>(ty5).sizeOf w
  unfold Op.equalIn
  simp [run_underlying hu,hsz,part,isAgg,run_underlying hi,run_equalIn_int _ _ _ _ _ _ _ hi,Std.Legacy.Range.forIn_eq_forIn_range',Std.Legacy.Range.size,List.range'_succ]
  by_cases h0:a0=b0<;>by_cases h1:a1=b1<;>by_cases h2:a2=b2<;>by_cases h3:a3=b3<;>by_cases h4:a4=b4<;>by_cases h5:a5=b5<;>simp [h0,h1,h2,h3,h4,h5]
structure Nb where
 k:Int
 fl:Int
 tg:Ad
 has:Bool
 ln:List Int
def nbC (n:Nb):List AV:=[.base (.int .i64 n.k),.base (.int .i64 n.fl)]++adC n.tg++[.base (.bool n.has)]++bytesC n.ln
section
variable {o:Oper} {E:Operand→Option AV} {H:Hp} {f:Nat} {ty:TypeId} {x y:Operand}
theorem LO.eql_ad (a b:Ad) (ho:o.op=.binOp .eql 54 x y ty) (hx:E x=some (.agg (adC a))) (hy:E y=some (.agg (adC b))):LO Tryz.prog o E H f [] [] (.base (.bool (eqA a b))) H :=
 LO.eq_bases false [.bool a.v6,.int .u64 a.hi,.int .u64 a.lo] [.bool b.v6,.int .u64 b.hi,.int .u64 b.lo] ho hx hy rfl rfl (guard_run x y false (by kernel_rfl)) (eqAd_in 9998 a b)
theorem LO.neq_ad (a b:Ad) (ho:o.op=.binOp .neq 54 x y ty) (hx:E x=some (.agg (adC a))) (hy:E y=some (.agg (adC b))):LO Tryz.prog o E H f [] [] (.base (.bool (!eqA a b))) H :=
 LO.eq_bases true [.bool a.v6,.int .u64 a.hi,.int .u64 a.lo] [.bool b.v6,.int .u64 b.hi,.int .u64 b.lo] ho hx hy rfl rfl (guard_run x y true (by kernel_rfl)) (eqAd_in 9998 a b)
theorem bytesC_bases (l:List Int):bytesC l=(l.map (Value.int .u8)).map AV.base:=by simp [bytesC]
theorem LO.neq_mac (a b:List Int) (ha:a.length=6) (hb:b.length=6) (ho:o.op=.binOp .neq 23 x y ty) (hx:E x=some (.agg (bytesC a))) (hy:E y=some (.agg (bytesC b))):LO Tryz.prog o E H f [] [] (.base (.bool (!decide (a=b)))) H :=
 LO.eq_bases true (a.map (Value.int .u8)) (b.map (Value.int .u8)) ho hx hy (bytesC_bases a) (bytesC_bases b) (guard_run x y true (by kernel_rfl)) (eqMac_in 9998 ha hb)
end
end Go.Proofs.YtlcndmciognneaaGreatDoor
namespace Go.Proofs.YtlcndmciognneaaGreatDoor
open Go.RowKit
def zAd:Ad:=⟨false,0,0⟩
def zMac:List Int:=[0,0,0,0,0,0]
def validN (n:Nb):Bool:=decide (133≤n.k) && (decide (n.k≤137) && (decide (0≤n.fl) && (decide (n.fl≤7) && ((n.fl == 0 || n.k == 136) && ((n.has || decide (n.ln=zMac)) && (if targB n.k then n.tg.v6 && !grpA n.tg else eqA n.tg zAd))))))
theorem nb_tkM {n:Nb} (h:n.ln.length=6):Tk (nbC n) (0 + 6) 6 (bytesC n.ln):=by
 refine ⟨by rw [bytesC_len,h],fun j c hj=>?_⟩
 unfold nbC
 have e:([AV.base (.int .i64 n.k),AV.base (.int .i64 n.fl)]++adC n.tg++[AV.base (.bool n.has)]).length=6:=by simp [adC]
 rw [List.getElem?_append_right (by omega),e]
 rw [show 0 + 6 + j - 6=j from by omega]
 exact hj
theorem nb_tkA (n:Nb):Tk (nbC n) (0 + 2) 3 (adC n.tg):=⟨rfl,fun j c hj=>by
 match j with
 | 0=>exact hj
 | 1=>exact hj
 | 2=>exact hj
 | j + 3=>simp [adC] at hj⟩
set_option maxHeartbeats 1000000 in
theorem nvalidX_any (n:Nb) (hl:n.ln.length=6):AFn Tryz.prog 84 0 [.agg (nbC n)] mt (.base (.bool (validN n))) mt:=by
 refine AFn.eq Tryz.func84 rfl rfl (Nat.le_of_ble_eq_true rfl) ?_
 have htg:=targetedX_any
 have hgr:=groupX_any
 refine Wq<|qW 0 2 rfl<|qC rfl<|qA rfl<|Nl<|Wq<|Wq<|qW 6 45 rfl<|qF rfl ty87 rfl<|qL rfl ty3 rfl<|qK rfl<|qM rfl<|RW.split (t:=6) rfl (fun hb1=>?_) (fun hb1=>?_)
 ·
  try (have hb1p:=of_decide_eq_true hb1)
  try (have hb1q:=eq_of_beq hb1)
  refine qD rfl hb1 rfl<|qD rfl hb1 rfl<|qD rfl hb1 rfl<|qT rfl hb1 rfl<|qM rfl<|qD rfl rfl rfl<|qD rfl rfl rfl<|qD rfl rfl rfl<|qT rfl rfl rfl<|qM rfl<|qD rfl rfl rfl<|qD rfl rfl rfl<|qD rfl rfl rfl<|qT rfl rfl rfl<|qM rfl<|qD rfl rfl rfl<|qD rfl rfl rfl<|qD rfl rfl rfl<|qD rfl rfl rfl<|Ud rfl rfl rfl rfl<|Ud rfl rfl rfl rfl<|Ud rfl rfl rfl rfl<|qD rfl rfl rfl<|qT rfl rfl rfl<|qM rfl<|qD rfl rfl rfl<|qD rfl rfl rfl<|qD rfl rfl rfl<|qD rfl rfl rfl<|Ud rfl rfl rfl rfl<|Ud rfl rfl rfl rfl<|Ud rfl rfl rfl rfl<|Ud rfl rfl rfl rfl<|qD rfl rfl rfl<|qT rfl rfl rfl<|Nl<|Wt rfl rfl<|Wq<|qW 49 50 rfl<|qA rfl<|Nl<|Wz ⟨.inl rfl,_,mt,Rc (Rt0 rfl) (Rv),aM,?_⟩
  exact ⟨by (simp_all [validN,retOf])<;>(first|omega|(rw [Bool.eq_iff_iff];simp only [Bool.and_eq_true,Bool.or_eq_true,decide_eq_true_eq,beq_iff_eq];omega)),rfl⟩
 ·
  try (have hb1p:=of_decide_eq_false hb1)
  try (have hb1q:=ne_of_beq_false hb1)
  refine gF rfl hb1 ty87 rfl<|gL rfl hb1 ty3 rfl<|gGt rfl hb1<|qP rfl hb1 rfl<|qM rfl<|RW.split (t:=11) rfl (fun hb2=>?_) (fun hb2=>?_)
  ·
   try (have hb2p:=of_decide_eq_true hb2)
   try (have hb2q:=eq_of_beq hb2)
   refine qD rfl hb2 rfl<|qD rfl hb2 rfl<|qD rfl hb2 rfl<|qT rfl hb2 rfl<|qM rfl<|qD rfl rfl rfl<|qD rfl rfl rfl<|qD rfl rfl rfl<|qT rfl rfl rfl<|qM rfl<|qD rfl rfl rfl<|qD rfl rfl rfl<|qD rfl rfl rfl<|qD rfl rfl rfl<|Ud rfl rfl rfl rfl<|Ud rfl rfl rfl rfl<|Ud rfl rfl rfl rfl<|qD rfl rfl rfl<|qT rfl rfl rfl<|qM rfl<|qD rfl rfl rfl<|qD rfl rfl rfl<|qD rfl rfl rfl<|qD rfl rfl rfl<|Ud rfl rfl rfl rfl<|Ud rfl rfl rfl rfl<|Ud rfl rfl rfl rfl<|Ud rfl rfl rfl rfl<|qD rfl rfl rfl<|qT rfl rfl rfl<|Nl<|Wt rfl rfl<|Wq<|qW 49 50 rfl<|qA rfl<|Nl<|Wz ⟨.inl rfl,_,mt,Rc (Rt0 rfl) (Rv),aM,?_⟩
   exact ⟨by (simp_all [validN,retOf])<;>(first|omega|(rw [Bool.eq_iff_iff];simp only [Bool.and_eq_true,Bool.or_eq_true,decide_eq_true_eq,beq_iff_eq];omega)),rfl⟩
  ·
   try (have hb2p:=of_decide_eq_false hb2)
   try (have hb2q:=ne_of_beq_false hb2)
   refine gF rfl hb2 ty87 rfl<|gL rfl hb2 ty3 rfl<|gK rfl hb2<|qP rfl hb2 rfl<|qM rfl<|RW.split (t:=16) rfl (fun hb3=>?_) (fun hb3=>?_)
   ·
    try (have hb3p:=of_decide_eq_true hb3)
    try (have hb3q:=eq_of_beq hb3)
    refine qD rfl hb3 rfl<|qD rfl hb3 rfl<|qD rfl hb3 rfl<|qT rfl hb3 rfl<|qM rfl<|qD rfl rfl rfl<|qD rfl rfl rfl<|qD rfl rfl rfl<|qD rfl rfl rfl<|Ud rfl rfl rfl rfl<|Ud rfl rfl rfl rfl<|Ud rfl rfl rfl rfl<|qD rfl rfl rfl<|qT rfl rfl rfl<|qM rfl<|qD rfl rfl rfl<|qD rfl rfl rfl<|qD rfl rfl rfl<|qD rfl rfl rfl<|Ud rfl rfl rfl rfl<|Ud rfl rfl rfl rfl<|Ud rfl rfl rfl rfl<|Ud rfl rfl rfl rfl<|qD rfl rfl rfl<|qT rfl rfl rfl<|Nl<|Wt rfl rfl<|Wq<|qW 49 50 rfl<|qA rfl<|Nl<|Wz ⟨.inl rfl,_,mt,Rc (Rt0 rfl) (Rv),aM,?_⟩
    exact ⟨by (simp_all [validN,retOf])<;>(first|omega|(rw [Bool.eq_iff_iff];simp only [Bool.and_eq_true,Bool.or_eq_true,decide_eq_true_eq,beq_iff_eq];omega)),rfl⟩
   ·
    try (have hb3p:=of_decide_eq_false hb3)
    try (have hb3q:=ne_of_beq_false hb3)
    refine gF rfl hb3 ty87 rfl<|gL rfl hb3 ty3 rfl<|gGt rfl hb3<|qP rfl hb3 rfl<|qM rfl<|RW.split (t:=21) rfl (fun hb4=>?_) (fun hb4=>?_)
    ·
     try (have hb4p:=of_decide_eq_true hb4)
     try (have hb4q:=eq_of_beq hb4)
     refine qD rfl hb4 rfl<|qD rfl hb4 rfl<|qD rfl hb4 rfl<|qD rfl hb4 rfl<|Ud rfl rfl rfl rfl<|Ud rfl rfl rfl rfl<|Ud rfl rfl rfl rfl<|qD rfl hb4 rfl<|qT rfl hb4 rfl<|qM rfl<|qD rfl rfl rfl<|qD rfl rfl rfl<|qD rfl rfl rfl<|qD rfl rfl rfl<|Ud rfl rfl rfl rfl<|Ud rfl rfl rfl rfl<|Ud rfl rfl rfl rfl<|Ud rfl rfl rfl rfl<|qD rfl rfl rfl<|qT rfl rfl rfl<|Nl<|Wt rfl rfl<|Wq<|qW 49 50 rfl<|qA rfl<|Nl<|Wz ⟨.inl rfl,_,mt,Rc (Rt0 rfl) (Rv),aM,?_⟩
     exact ⟨by (simp_all [validN,retOf])<;>(first|omega|(rw [Bool.eq_iff_iff];simp only [Bool.and_eq_true,Bool.or_eq_true,decide_eq_true_eq,beq_iff_eq];omega)),rfl⟩
    ·
     try (have hb4p:=of_decide_eq_false hb4)
     try (have hb4q:=ne_of_beq_false hb4)
     refine gF rfl hb4 ty87 rfl<|gL rfl hb4 ty3 rfl<|gGt rfl hb4<|gM rfl hb4<|RW.split (t:=25) rfl (fun hb5=>?_) (fun hb5=>?_)
     ·
      try (have hb5p:=of_decide_eq_true hb5)
      try (have hb5q:=eq_of_beq hb5)
      refine gF rfl hb5 ty87 rfl<|gL rfl hb5 ty3 rfl<|gN rfl hb5<|qU rfl hb4 rfl (Pt rfl rfl hb5 rfl)<|qP rfl hb4 rfl<|qM rfl<|RW.split (t:=31) rfl (fun hb6=>?_) (fun hb6=>?_)
      ·
       try (have hb6p:=of_decide_eq_true hb6)
       try (have hb6q:=eq_of_beq hb6)
       refine qD rfl hb6 rfl<|qD rfl hb6 rfl<|qD rfl hb6 rfl<|qD rfl hb6 rfl<|Ud rfl rfl rfl rfl<|Ud rfl rfl rfl rfl<|Ud rfl rfl rfl rfl<|Ud rfl rfl rfl rfl<|qD rfl hb6 rfl<|qT rfl hb6 rfl<|Nl<|Wt rfl rfl<|Wq<|qW 49 50 rfl<|qA rfl<|Nl<|Wz ⟨.inl rfl,_,mt,Rc (Rt0 rfl) (Rv),aM,?_⟩
       exact ⟨by (simp_all [validN,retOf])<;>(first|omega|(rw [Bool.eq_iff_iff];simp only [Bool.and_eq_true,Bool.or_eq_true,decide_eq_true_eq,beq_iff_eq];omega)),rfl⟩
      ·
       try (have hb6p:=of_decide_eq_false hb6)
       try (have hb6q:=ne_of_beq_false hb6)
       refine gF rfl hb6 ty87 rfl<|gL rfl hb6 ty4 rfl<|gO rfl hb6<|gM rfl hb6<|RW.split (t:=35) rfl (fun hb7=>?_) (fun hb7=>?_)
       ·
        try (have hb7p:=of_decide_eq_true hb7)
        try (have hb7q:=eq_of_beq hb7)
        refine gF rfl hb7 ty87 rfl<|gG rfl hb7 ty23 rfl (nb_tkM hl)<|qU rfl hb7 rfl (LO.build_ar rfl ty23 ty5 .nil)<|qU rfl hb7 rfl (LO.neq_mac n.ln zMac hl rfl rfl rfl rfl)<|qU rfl hb6 rfl (Pt rfl rfl hb7 rfl)<|qP rfl hb6 rfl<|Nl<|W.cond rfl (fun hb8=>?_) (fun hb8=>?_)
        ·
         try (have hb8p:=of_decide_eq_true hb8)
         try (have hb8q:=eq_of_beq hb8)
         refine Wq<|qW 49 50 rfl<|qA rfl<|Nl<|Wz ⟨.inl rfl,_,mt,Rc (Rt0 rfl) (Rv),aM,?_⟩
         exact ⟨by (simp_all [validN,retOf])<;>(first|omega|(rw [Bool.eq_iff_iff];simp only [Bool.and_eq_true,Bool.or_eq_true,decide_eq_true_eq,beq_iff_eq];omega)),rfl⟩
        ·
         try (have hb8p:=of_decide_eq_false hb8)
         try (have hb8q:=ne_of_beq_false hb8)
         refine Wu<|Wq<|Wq<|qW 54 57 rfl<|qF rfl ty87 rfl<|qL rfl ty3 rfl<|qY rfl (htg _) fok80 rfl<|Nl<|W.cond rfl (fun hb9=>?_) (fun hb9=>?_)
         ·
          try (have hb9p:=of_decide_eq_true hb9)
          try (have hb9q:=eq_of_beq hb9)
          refine Wq<|qW 61 71 rfl<|qF rfl ty87 rfl<|qF rfl ty54 rfl<|qL rfl ty4 rfl<|qM rfl<|RW.split (t:=48) rfl (fun hb10=>?_) (fun hb10=>?_)
          ·
           try (have hb10p:=of_decide_eq_true hb10)
           try (have hb10q:=eq_of_beq hb10)
           refine gF rfl hb10 ty87 rfl<|gG rfl hb10 ty54 rfl (Tl rfl)<|gY rfl hb10 (hgr _) fok81 rfl<|gO rfl hb10<|qT rfl hb10 rfl<|qA rfl<|Nl<|Wz ⟨.inl rfl,_,mt,Rc (Rt0 rfl) (Rv),aM,?_⟩
           exact ⟨by (simp_all [validN,retOf])<;>(first|omega|(rw [Bool.eq_iff_iff];simp only [Bool.and_eq_true,Bool.or_eq_true,decide_eq_true_eq,beq_iff_eq];omega)),rfl⟩
          ·
           try (have hb10p:=of_decide_eq_false hb10)
           try (have hb10q:=ne_of_beq_false hb10)
           refine qD rfl hb10 rfl<|qD rfl hb10 rfl<|qD rfl hb10 rfl<|qD rfl hb10 rfl<|qP rfl hb10 rfl<|qA rfl<|Nl<|Wz ⟨.inl rfl,_,mt,Rc (Rt0 rfl) (Rv),aM,?_⟩
           exact ⟨by (simp_all [validN,retOf])<;>(first|omega|(rw [Bool.eq_iff_iff];simp only [Bool.and_eq_true,Bool.or_eq_true,decide_eq_true_eq,beq_iff_eq];omega)),rfl⟩
         ·
          try (have hb9p:=of_decide_eq_false hb9)
          try (have hb9q:=ne_of_beq_false hb9)
          refine Wu<|Wq<|qW 75 80 rfl<|qF rfl ty87 rfl<|qG rfl ty54 rfl (Tl rfl)<|Od rfl rfl (Bs rfl ty54 .nil)<|Od rfl rfl (LO.eql_ad n.tg zAd rfl rfl rfl)<|qA rfl<|Nl<|Wz ⟨.inl rfl,_,mt,Rc (Rt0 rfl) (Rv),aM,?_⟩
          exact ⟨by (simp_all [validN,retOf])<;>(first|omega|(rw [Bool.eq_iff_iff];simp only [Bool.and_eq_true,Bool.or_eq_true,decide_eq_true_eq,beq_iff_eq];omega)),rfl⟩
       ·
        try (have hb7p:=of_decide_eq_false hb7)
        try (have hb7q:=ne_of_beq_false hb7)
        refine qD rfl hb7 rfl<|qD rfl hb7 rfl<|qD rfl hb7 rfl<|qD rfl hb7 rfl<|qU rfl hb6 rfl (Pf0 rfl rfl hb7 rfl)<|qP rfl hb6 rfl<|Nl<|Wo rfl rfl<|Wu<|Wq<|Wq<|qW 54 57 rfl<|qF rfl ty87 rfl<|qL rfl ty3 rfl<|qY rfl (htg _) fok80 rfl<|Nl<|W.cond rfl (fun hb11=>?_) (fun hb11=>?_)
        ·
         try (have hb11p:=of_decide_eq_true hb11)
         try (have hb11q:=eq_of_beq hb11)
         refine Wq<|qW 61 71 rfl<|qF rfl ty87 rfl<|qF rfl ty54 rfl<|qL rfl ty4 rfl<|qM rfl<|RW.split (t:=48) rfl (fun hb12=>?_) (fun hb12=>?_)
         ·
          try (have hb12p:=of_decide_eq_true hb12)
          try (have hb12q:=eq_of_beq hb12)
          refine gF rfl hb12 ty87 rfl<|gG rfl hb12 ty54 rfl (Tl rfl)<|gY rfl hb12 (hgr _) fok81 rfl<|gO rfl hb12<|qT rfl hb12 rfl<|qA rfl<|Nl<|Wz ⟨.inl rfl,_,mt,Rc (Rt0 rfl) (Rv),aM,?_⟩
          exact ⟨by (simp_all [validN,retOf])<;>(first|omega|(rw [Bool.eq_iff_iff];simp only [Bool.and_eq_true,Bool.or_eq_true,decide_eq_true_eq,beq_iff_eq];omega)),rfl⟩
         ·
          try (have hb12p:=of_decide_eq_false hb12)
          try (have hb12q:=ne_of_beq_false hb12)
          refine qD rfl hb12 rfl<|qD rfl hb12 rfl<|qD rfl hb12 rfl<|qD rfl hb12 rfl<|qP rfl hb12 rfl<|qA rfl<|Nl<|Wz ⟨.inl rfl,_,mt,Rc (Rt0 rfl) (Rv),aM,?_⟩
          exact ⟨by (simp_all [validN,retOf])<;>(first|omega|(rw [Bool.eq_iff_iff];simp only [Bool.and_eq_true,Bool.or_eq_true,decide_eq_true_eq,beq_iff_eq];omega)),rfl⟩
        ·
         try (have hb11p:=of_decide_eq_false hb11)
         try (have hb11q:=ne_of_beq_false hb11)
         refine Wu<|Wq<|qW 75 80 rfl<|qF rfl ty87 rfl<|qG rfl ty54 rfl (Tl rfl)<|Od rfl rfl (Bs rfl ty54 .nil)<|Od rfl rfl (LO.eql_ad n.tg zAd rfl rfl rfl)<|qA rfl<|Nl<|Wz ⟨.inl rfl,_,mt,Rc (Rt0 rfl) (Rv),aM,?_⟩
         exact ⟨by (simp_all [validN,retOf])<;>(first|omega|(rw [Bool.eq_iff_iff];simp only [Bool.and_eq_true,Bool.or_eq_true,decide_eq_true_eq,beq_iff_eq];omega)),rfl⟩
     ·
      try (have hb5p:=of_decide_eq_false hb5)
      try (have hb5q:=ne_of_beq_false hb5)
      refine qD rfl hb5 rfl<|qD rfl hb5 rfl<|qD rfl hb5 rfl<|qU rfl hb4 rfl (Pf0 rfl rfl hb5 rfl)<|qP rfl hb4 rfl<|qM rfl<|gF rfl rfl ty87 rfl<|gL rfl rfl ty4 rfl<|gO rfl rfl<|gM rfl rfl<|RW.split (t:=35) rfl (fun hb13=>?_) (fun hb13=>?_)
      ·
       try (have hb13p:=of_decide_eq_true hb13)
       try (have hb13q:=eq_of_beq hb13)
       refine gF rfl hb13 ty87 rfl<|gG rfl hb13 ty23 rfl (nb_tkM hl)<|qU rfl hb13 rfl (LO.build_ar rfl ty23 ty5 .nil)<|qU rfl hb13 rfl (LO.neq_mac n.ln zMac hl rfl rfl rfl rfl)<|qU rfl rfl rfl (Pt rfl rfl hb13 rfl)<|qP rfl rfl rfl<|Nl<|W.cond rfl (fun hb14=>?_) (fun hb14=>?_)
       ·
        try (have hb14p:=of_decide_eq_true hb14)
        try (have hb14q:=eq_of_beq hb14)
        refine Wq<|qW 49 50 rfl<|qA rfl<|Nl<|Wz ⟨.inl rfl,_,mt,Rc (Rt0 rfl) (Rv),aM,?_⟩
        exact ⟨by (simp_all [validN,retOf])<;>(first|omega|(rw [Bool.eq_iff_iff];simp only [Bool.and_eq_true,Bool.or_eq_true,decide_eq_true_eq,beq_iff_eq];omega)),rfl⟩
       ·
        try (have hb14p:=of_decide_eq_false hb14)
        try (have hb14q:=ne_of_beq_false hb14)
        refine Wu<|Wq<|Wq<|qW 54 57 rfl<|qF rfl ty87 rfl<|qL rfl ty3 rfl<|qY rfl (htg _) fok80 rfl<|Nl<|W.cond rfl (fun hb15=>?_) (fun hb15=>?_)
        ·
         try (have hb15p:=of_decide_eq_true hb15)
         try (have hb15q:=eq_of_beq hb15)
         refine Wq<|qW 61 71 rfl<|qF rfl ty87 rfl<|qF rfl ty54 rfl<|qL rfl ty4 rfl<|qM rfl<|RW.split (t:=48) rfl (fun hb16=>?_) (fun hb16=>?_)
         ·
          try (have hb16p:=of_decide_eq_true hb16)
          try (have hb16q:=eq_of_beq hb16)
          refine gF rfl hb16 ty87 rfl<|gG rfl hb16 ty54 rfl (Tl rfl)<|gY rfl hb16 (hgr _) fok81 rfl<|gO rfl hb16<|qT rfl hb16 rfl<|qA rfl<|Nl<|Wz ⟨.inl rfl,_,mt,Rc (Rt0 rfl) (Rv),aM,?_⟩
          exact ⟨by (simp_all [validN,retOf])<;>(first|omega|(rw [Bool.eq_iff_iff];simp only [Bool.and_eq_true,Bool.or_eq_true,decide_eq_true_eq,beq_iff_eq];omega)),rfl⟩
         ·
          try (have hb16p:=of_decide_eq_false hb16)
          try (have hb16q:=ne_of_beq_false hb16)
          refine qD rfl hb16 rfl<|qD rfl hb16 rfl<|qD rfl hb16 rfl<|qD rfl hb16 rfl<|qP rfl hb16 rfl<|qA rfl<|Nl<|Wz ⟨.inl rfl,_,mt,Rc (Rt0 rfl) (Rv),aM,?_⟩
          exact ⟨by (simp_all [validN,retOf])<;>(first|omega|(rw [Bool.eq_iff_iff];simp only [Bool.and_eq_true,Bool.or_eq_true,decide_eq_true_eq,beq_iff_eq];omega)),rfl⟩
        ·
         try (have hb15p:=of_decide_eq_false hb15)
         try (have hb15q:=ne_of_beq_false hb15)
         refine Wu<|Wq<|qW 75 80 rfl<|qF rfl ty87 rfl<|qG rfl ty54 rfl (Tl rfl)<|Od rfl rfl (Bs rfl ty54 .nil)<|Od rfl rfl (LO.eql_ad n.tg zAd rfl rfl rfl)<|qA rfl<|Nl<|Wz ⟨.inl rfl,_,mt,Rc (Rt0 rfl) (Rv),aM,?_⟩
         exact ⟨by (simp_all [validN,retOf])<;>(first|omega|(rw [Bool.eq_iff_iff];simp only [Bool.and_eq_true,Bool.or_eq_true,decide_eq_true_eq,beq_iff_eq];omega)),rfl⟩
      ·
       try (have hb13p:=of_decide_eq_false hb13)
       try (have hb13q:=ne_of_beq_false hb13)
       refine qD rfl hb13 rfl<|qD rfl hb13 rfl<|qD rfl hb13 rfl<|qD rfl hb13 rfl<|qU rfl rfl rfl (Pf0 rfl rfl hb13 rfl)<|qP rfl rfl rfl<|Nl<|Wo rfl rfl<|Wu<|Wq<|Wq<|qW 54 57 rfl<|qF rfl ty87 rfl<|qL rfl ty3 rfl<|qY rfl (htg _) fok80 rfl<|Nl<|W.cond rfl (fun hb17=>?_) (fun hb17=>?_)
       ·
        try (have hb17p:=of_decide_eq_true hb17)
        try (have hb17q:=eq_of_beq hb17)
        refine Wq<|qW 61 71 rfl<|qF rfl ty87 rfl<|qF rfl ty54 rfl<|qL rfl ty4 rfl<|qM rfl<|RW.split (t:=48) rfl (fun hb18=>?_) (fun hb18=>?_)
        ·
         try (have hb18p:=of_decide_eq_true hb18)
         try (have hb18q:=eq_of_beq hb18)
         refine gF rfl hb18 ty87 rfl<|gG rfl hb18 ty54 rfl (Tl rfl)<|gY rfl hb18 (hgr _) fok81 rfl<|gO rfl hb18<|qT rfl hb18 rfl<|qA rfl<|Nl<|Wz ⟨.inl rfl,_,mt,Rc (Rt0 rfl) (Rv),aM,?_⟩
         exact ⟨by (simp_all [validN,retOf])<;>(first|omega|(rw [Bool.eq_iff_iff];simp only [Bool.and_eq_true,Bool.or_eq_true,decide_eq_true_eq,beq_iff_eq];omega)),rfl⟩
        ·
         try (have hb18p:=of_decide_eq_false hb18)
         try (have hb18q:=ne_of_beq_false hb18)
         refine qD rfl hb18 rfl<|qD rfl hb18 rfl<|qD rfl hb18 rfl<|qD rfl hb18 rfl<|qP rfl hb18 rfl<|qA rfl<|Nl<|Wz ⟨.inl rfl,_,mt,Rc (Rt0 rfl) (Rv),aM,?_⟩
         exact ⟨by (simp_all [validN,retOf])<;>(first|omega|(rw [Bool.eq_iff_iff];simp only [Bool.and_eq_true,Bool.or_eq_true,decide_eq_true_eq,beq_iff_eq];omega)),rfl⟩
       ·
        try (have hb17p:=of_decide_eq_false hb17)
        try (have hb17q:=ne_of_beq_false hb17)
        refine Wu<|Wq<|qW 75 80 rfl<|qF rfl ty87 rfl<|qG rfl ty54 rfl (Tl rfl)<|Od rfl rfl (Bs rfl ty54 .nil)<|Od rfl rfl (LO.eql_ad n.tg zAd rfl rfl rfl)<|qA rfl<|Nl<|Wz ⟨.inl rfl,_,mt,Rc (Rt0 rfl) (Rv),aM,?_⟩
        exact ⟨by (simp_all [validN,retOf])<;>(first|omega|(rw [Bool.eq_iff_iff];simp only [Bool.and_eq_true,Bool.or_eq_true,decide_eq_true_eq,beq_iff_eq];omega)),rfl⟩
end Go.Proofs.YtlcndmciognneaaGreatDoor
namespace Go.Proofs.YtlcndmciognneaaGreatDoor
open Go.RowKit
theorem i64_and {n:Int} (h0:0≤n) (h1:n < 9223372036854775808):bitV .and .i64 n 65535=n % 65536:=by
 obtain ⟨k,rfl⟩:=Int.eq_ofNat_of_zero_le h0
 have e1:(BitVec.ofInt IntKind.i64.bits (k:Int) &&& BitVec.ofInt IntKind.i64.bits 65535).toNat=k % 65536:=by
  rw [BitVec.toNat_and]
  have a1:(BitVec.ofInt IntKind.i64.bits (k:Int)).toNat=k:=by
   simp only [BitVec.toNat_ofInt,IntKind.bits];omega
  have a2:(BitVec.ofInt IntKind.i64.bits (65535:Int)).toNat=2 ^ 16 - 1:=by decide
  rw [a1,a2,Nat.and_two_pow_sub_one_eq_mod]
 show IntKind.i64.wrap ((BitVec.ofInt IntKind.i64.bits (k:Int) &&& BitVec.ofInt IntKind.i64.bits 65535).toNat:Nat)=_
 rw [e1,IntWalk.i64_in _ (by omega)]
 omega
theorem fb_one (p:Int × Int) (x:Int):bitV .or .u64 (IntKind.u64.wrap (p.1 * 2 ^ (min (8:Int).toNat IntKind.u64.bits))) (p.2.fdiv (2 ^ (min (56:Int).toNat IntKind.u64.bits)))=(fbStep p x).1:=by
 rw [show (2:Int) ^ (min (56:Int).toNat IntKind.u64.bits)=72057594037927936 from by decide,Int.fdiv_eq_ediv_of_nonneg _ (by decide)]
 rfl
theorem sum_any (l:List Int) (hB:IsB l) (hl:l.length≤1000000):AFn Tryz.prog 177 0 [.isl (bytesC l) l.length] mt (.base (.int .u16 (sumL l))) mt:=by
 refine AFn.eq Tryz.func177 rfl rfl (Nat.le_of_ble_eq_true rfl)<|Wq<|qW 0 1 rfl<|qA rfl<|Nl<|Wq<|qW 5 6 rfl<|qA rfl<|Nl<|Wq<|Wq<|qW 10 13 rfl<|qM rfl<|qH rfl ty24<|qM rfl<|Nl<|Wb<|W.loop_keep (α:=Nat) (fun x=>l.length - x) 0 (fun x=>[(3,.base (.int .i64 (accN (gB l) x))),(8,.base (.int .i64 (x:Int)))]) (fun x=>mt) (fun x=>x≤l.length) 0 [] (.cons (t:=6) rfl (by exact .inl rfl) (.cons (t:=7) rfl (by exact .inl rfl) .nil)) (show 0≤l.length from Nat.zero_le _) (by decide) ?_ ?_ ?_
 ·exact lC (lR rfl) (lC (lR rfl) lN)
 ·exact aM
 rintro i hIA ihA
 try (dsimp only at hIA)
 try dsimp only [baseT,List.cons_append,List.nil_append]
 have hbd:=accN_bd (gB l) i (fun j=>hB.at j)
 by_cases hc:i < l.length
 ·have g1:decide ((i:Int) < (l.length:Int))=true:=decide_eq_true (by omega)
  have hx:=hB.at i
  have hs:accN (gB l) (i + 1)=accN (gB l) i + (if i % 2=0 then gB l i * 256 else gB l i):=rfl
  obtain ⟨x,hxe⟩:∃ x,gB l i=x:=⟨_,rfl⟩
  have hat:=by_at hc
  rw [hxe] at hx hs hat
  have hsh:IntKind.i64.wrap (x * 2 ^ (min (8:Int).toNat IntKind.i64.bits))=x * 256:=by
   rw [show (2:Int) ^ (min (8:Int).toNat IntKind.i64.bits)=256 from by decide];exact IntWalk.i64_in _ (by omega)
  refine Wq<|qW 17 18 rfl<|qK rfl<|Nl<|Wq<|Wt rfl ‹_›<|Wu<|Wq<|Wb<|Wq<|qW 22 27 rfl<|qM rfl<|qJ rfl rfl ty24 ty5 (by omega)<|Od rfl rfl (Li rfl rfl hat ty5 rfl)<|qA rfl<|qA rfl<|Nl ?_
  by_cases hev:i % 2=0
  ·have g2:((i:Int) % 2 == 0)=true:=by simp;omega
   rw [if_pos hev] at hs
   refine Wq<|qW 31 34 rfl<|qM rfl<|Od rfl rfl (LO.rem_in rfl rfl rfl (by omega) (by omega))<|qE rfl<|Nl<|Wt rfl ‹_›<|qW 38 44 rfl<|qM rfl<|qM rfl<|Od rfl rfl (Ci rfl rfl ty5 ty3 (iW _ (by omega)))<|Od rfl rfl (LO.shl rfl rfl rfl (by omega)) ?_
   rw [hsh]
   refine qZ rfl (iW _ (by omega))<|qA rfl<|Nl ?_
   rw [← hs]
   refine qW 57 59 rfl<|qZ rfl (iW _ (by omega))<|qM rfl<|Nl<|WL.renameL [] 0 (by decide) ?_ ?_ (ihA (i + 1) (show l.length - (i + 1) < l.length - i from by omega) (show (i + 1)≤l.length from by omega))
   ·exact lC (lR rfl) (lC (lR rfl) (lC (lR rfl) (lC (lR rfl) lN)))
   ·exact aM
  ·have g2:((i:Int) % 2 == 0)=false:=by simp;omega
   rw [if_neg hev] at hs
   refine Wq<|qW 31 34 rfl<|qM rfl<|Od rfl rfl (LO.rem_in rfl rfl rfl (by omega) (by omega))<|qE rfl<|Nl<|Wo rfl ‹_›<|qW 48 53 rfl<|qM rfl<|qM rfl<|Od rfl rfl (Ci rfl rfl ty5 ty3 (iW _ (by omega)))<|qZ rfl (iW _ (by omega))<|qA rfl<|Nl ?_
   rw [← hs]
   refine qW 57 59 rfl<|qZ rfl (iW _ (by omega))<|qM rfl<|Nl<|WL.renameL [] 0 (by decide) ?_ ?_ (ihA (i + 1) (show l.length - (i + 1) < l.length - i from by omega) (show (i + 1)≤l.length from by omega))
   ·exact lC (lR rfl) (lC (lR rfl) (lC (lR rfl) (lC (lR rfl) lN)))
   ·exact aM
 ·have g1:decide ((i:Int) < (l.length:Int))=false:=decide_eq_false (by omega)
  refine Wq<|qW 17 18 rfl<|qK rfl<|Nl<|Wq<|Wo rfl ‹_›<|Wx ?_
  obtain rfl:i=l.length:=by omega
  clear ihA
  refine Wq<|Wb<|W.loop_keep (α:=Int) (fun x=>x.toNat) 0 (fun x=>[(3,.base (.int .i64 x))]) (fun x=>mt) (fun x=>(0≤x∧x≤65280000000)∧foldS x=foldS (accL l)) (accN (gB l) l.length) [] .nil (show (0≤(accN (gB l) l.length)∧(accN (gB l) l.length)≤65280000000)∧foldS (accN (gB l) l.length)=foldS (accL l) from ⟨by omega,rfl⟩) (by decide) ?_ ?_ ?_
  ·exact lC (lR rfl) lN
  ·exact aM
  rintro n hIB ihB
  try (dsimp only at hIB)
  try dsimp only [baseT,List.cons_append,List.nil_append]
  obtain ⟨hn,hf⟩:=hIB
  by_cases hbig:65535 < n
  ·have g3:decide (n > 65535)=true:=decide_eq_true hbig
   have h1:n.fdiv (2 ^ (min (16:Int).toNat IntKind.i64.bits))=n / 65536:=by
    rw [show (2:Int) ^ (min (16:Int).toNat IntKind.i64.bits)=65536 from by decide];exact Int.fdiv_eq_ediv_of_nonneg _ (by decide)
   have h2:bitV .and .i64 n 65535=n % 65536:=i64_and hn.1 (by omega)
   refine Wq<|Wq<|qW 63 65 rfl<|qM rfl<|qGt rfl<|Nl<|Wt rfl ‹_›<|Wu<|Wb<|qW 69 75 rfl<|qM rfl<|Od rfl rfl (LO.shr rfl rfl rfl (by omega))<|qM rfl<|Od rfl rfl (LO.and rfl rfl rfl) ?_
   rw [h1,h2]
   refine qZ rfl (iW _ (by omega))<|qA rfl<|Nl<|WL.renameL [] 0 (by decide) ?_ ?_ (ihB (n / 65536 + n % 65536) (show (n / 65536 + n % 65536).toNat < n.toNat from by omega) (show (0≤(n / 65536 + n % 65536)∧(n / 65536 + n % 65536)≤65280000000)∧foldS (n / 65536 + n % 65536)=foldS (accL l) from ⟨by omega,by rw [foldS_step hbig];exact hf⟩))
   ·exact lC (lR rfl) lN
   ·exact aM
  ·have g3:decide (n > 65535)=false:=decide_eq_false hbig
   refine Wq<|Wq<|qW 63 65 rfl<|qM rfl<|qGt rfl<|Nl<|Wo rfl ‹_›<|Wx<|Wq<|qW 79 83 rfl<|qM rfl<|Od rfl rfl (LO.sub_in rfl rfl rfl (iW _ (by omega)))<|Od rfl rfl (Ci rfl rfl ty3 ty133 (IntWalk.u16_in _ (by omega)))<|qA rfl<|Nl<|Wz ⟨.inl rfl,_,mt,Rc (Rt0 rfl) (Rv),aM,?_⟩
   refine ⟨?_,rfl⟩
   rw [foldS_small hn.1 (by omega)] at hf
   show AV.base (.int .u16 (65535 - n))=_
   rw [hf];rfl
theorem sumX_any (l:List Int) (hB:IsB l) (hl:l.length≤1000000):AFn Tryz.prog 76 0 [.isl (bytesC l) l.length] mt (.base (.int .u16 (sumL l))) mt:=by
 refine AFn.eq Tryz.func76 rfl rfl (Nat.le_of_ble_eq_true rfl)<|Wq<|qW 0 1 rfl<|qA rfl<|Nl<|Wq<|qW 5 6 rfl<|qA rfl<|Nl<|Wq<|Wq<|qW 10 13 rfl<|qM rfl<|qH rfl ty24<|qM rfl<|Nl<|Wb<|W.loop_keep (α:=Nat) (fun x=>l.length - x) 0 (fun x=>[(3,.base (.int .i64 (accN (gB l) x))),(8,.base (.int .i64 (x:Int)))]) (fun x=>mt) (fun x=>x≤l.length) 0 [] (.cons (t:=6) rfl (by exact .inl rfl) (.cons (t:=7) rfl (by exact .inl rfl) .nil)) (show 0≤l.length from Nat.zero_le _) (by decide) ?_ ?_ ?_
 ·exact lC (lR rfl) (lC (lR rfl) lN)
 ·exact aM
 rintro i hIA ihA
 try (dsimp only at hIA)
 try dsimp only [baseT,List.cons_append,List.nil_append]
 have hbd:=accN_bd (gB l) i (fun j=>hB.at j)
 by_cases hc:i < l.length
 ·have g1:decide ((i:Int) < (l.length:Int))=true:=decide_eq_true (by omega)
  have hx:=hB.at i
  have hs:accN (gB l) (i + 1)=accN (gB l) i + (if i % 2=0 then gB l i * 256 else gB l i):=rfl
  obtain ⟨x,hxe⟩:∃ x,gB l i=x:=⟨_,rfl⟩
  have hat:=by_at hc
  rw [hxe] at hx hs hat
  have hsh:IntKind.i64.wrap (x * 2 ^ (min (8:Int).toNat IntKind.i64.bits))=x * 256:=by
   rw [show (2:Int) ^ (min (8:Int).toNat IntKind.i64.bits)=256 from by decide];exact IntWalk.i64_in _ (by omega)
  refine Wq<|qW 17 18 rfl<|qK rfl<|Nl<|Wq<|Wt rfl ‹_›<|Wu<|Wq<|Wb<|Wq<|qW 22 27 rfl<|qM rfl<|qJ rfl rfl ty24 ty5 (by omega)<|Od rfl rfl (Li rfl rfl hat ty5 rfl)<|qA rfl<|qA rfl<|Nl ?_
  by_cases hev:i % 2=0
  ·have g2:((i:Int) % 2 == 0)=true:=by simp;omega
   rw [if_pos hev] at hs
   refine Wq<|qW 31 34 rfl<|qM rfl<|Od rfl rfl (LO.rem_in rfl rfl rfl (by omega) (by omega))<|qE rfl<|Nl<|Wt rfl ‹_›<|qW 38 44 rfl<|qM rfl<|qM rfl<|Od rfl rfl (Ci rfl rfl ty5 ty3 (iW _ (by omega)))<|Od rfl rfl (LO.shl rfl rfl rfl (by omega)) ?_
   rw [hsh]
   refine qZ rfl (iW _ (by omega))<|qA rfl<|Nl ?_
   rw [← hs]
   refine qW 57 59 rfl<|qZ rfl (iW _ (by omega))<|qM rfl<|Nl<|WL.renameL [] 0 (by decide) ?_ ?_ (ihA (i + 1) (show l.length - (i + 1) < l.length - i from by omega) (show (i + 1)≤l.length from by omega))
   ·exact lC (lR rfl) (lC (lR rfl) (lC (lR rfl) (lC (lR rfl) lN)))
   ·exact aM
  ·have g2:((i:Int) % 2 == 0)=false:=by simp;omega
   rw [if_neg hev] at hs
   refine Wq<|qW 31 34 rfl<|qM rfl<|Od rfl rfl (LO.rem_in rfl rfl rfl (by omega) (by omega))<|qE rfl<|Nl<|Wo rfl ‹_›<|qW 48 53 rfl<|qM rfl<|qM rfl<|Od rfl rfl (Ci rfl rfl ty5 ty3 (iW _ (by omega)))<|qZ rfl (iW _ (by omega))<|qA rfl<|Nl ?_
   rw [← hs]
   refine qW 57 59 rfl<|qZ rfl (iW _ (by omega))<|qM rfl<|Nl<|WL.renameL [] 0 (by decide) ?_ ?_ (ihA (i + 1) (show l.length - (i + 1) < l.length - i from by omega) (show (i + 1)≤l.length from by omega))
   ·exact lC (lR rfl) (lC (lR rfl) (lC (lR rfl) (lC (lR rfl) lN)))
   ·exact aM
 ·have g1:decide ((i:Int) < (l.length:Int))=false:=decide_eq_false (by omega)
  refine Wq<|qW 17 18 rfl<|qK rfl<|Nl<|Wq<|Wo rfl ‹_›<|Wx ?_
  obtain rfl:i=l.length:=by omega
  clear ihA
  refine Wq<|Wb<|W.loop_keep (α:=Int) (fun x=>x.toNat) 0 (fun x=>[(3,.base (.int .i64 x))]) (fun x=>mt) (fun x=>(0≤x∧x≤65280000000)∧foldS x=foldS (accL l)) (accN (gB l) l.length) [] .nil (show (0≤(accN (gB l) l.length)∧(accN (gB l) l.length)≤65280000000)∧foldS (accN (gB l) l.length)=foldS (accL l) from ⟨by omega,rfl⟩) (by decide) ?_ ?_ ?_
  ·exact lC (lR rfl) lN
  ·exact aM
  rintro n hIB ihB
  try (dsimp only at hIB)
  try dsimp only [baseT,List.cons_append,List.nil_append]
  obtain ⟨hn,hf⟩:=hIB
  by_cases hbig:65535 < n
  ·have g3:decide (n > 65535)=true:=decide_eq_true hbig
   have h1:n.fdiv (2 ^ (min (16:Int).toNat IntKind.i64.bits))=n / 65536:=by
    rw [show (2:Int) ^ (min (16:Int).toNat IntKind.i64.bits)=65536 from by decide];exact Int.fdiv_eq_ediv_of_nonneg _ (by decide)
   have h2:bitV .and .i64 n 65535=n % 65536:=i64_and hn.1 (by omega)
   refine Wq<|Wq<|qW 63 65 rfl<|qM rfl<|qGt rfl<|Nl<|Wt rfl ‹_›<|Wu<|Wb<|qW 69 75 rfl<|qM rfl<|Od rfl rfl (LO.shr rfl rfl rfl (by omega))<|qM rfl<|Od rfl rfl (LO.and rfl rfl rfl) ?_
   rw [h1,h2]
   refine qZ rfl (iW _ (by omega))<|qA rfl<|Nl<|WL.renameL [] 0 (by decide) ?_ ?_ (ihB (n / 65536 + n % 65536) (show (n / 65536 + n % 65536).toNat < n.toNat from by omega) (show (0≤(n / 65536 + n % 65536)∧(n / 65536 + n % 65536)≤65280000000)∧foldS (n / 65536 + n % 65536)=foldS (accL l) from ⟨by omega,by rw [foldS_step hbig];exact hf⟩))
   ·exact lC (lR rfl) lN
   ·exact aM
  ·have g3:decide (n > 65535)=false:=decide_eq_false hbig
   refine Wq<|Wq<|qW 63 65 rfl<|qM rfl<|qGt rfl<|Nl<|Wo rfl ‹_›<|Wx<|Wq<|qW 79 83 rfl<|qM rfl<|Od rfl rfl (LO.sub_in rfl rfl rfl (iW _ (by omega)))<|Od rfl rfl (Ci rfl rfl ty3 ty133 (IntWalk.u16_in _ (by omega)))<|qA rfl<|Nl<|Wz ⟨.inl rfl,_,mt,Rc (Rt0 rfl) (Rv),aM,?_⟩
   refine ⟨?_,rfl⟩
   rw [foldS_small hn.1 (by omega)] at hf
   show AV.base (.int .u16 (65535 - n))=_
   rw [hf];rfl
theorem from_any (l:List Int) (hB:IsB l) (hn:l.length=4∨l.length=16):AFn Tryz.prog 143 0 [.isl (bytesC l) l.length] mt (.tup [.agg (adC ⟨(l.length:Int) == 16,(fb l).1,(fb l).2⟩),.base (.int .i64 0)]) mt:=by
 refine AFn.eq Tryz.func143 rfl rfl (Nat.le_of_ble_eq_true rfl)<|Wq<|qW 0 2 rfl<|qB rfl ty54<|qA rfl<|Nl ?_
 have key:((l.length:Int) != 4)=false∨(((l.length:Int) != 4)=true∧((l.length:Int) != 16)=false):=by
  rcases hn with h|h
  ·exact .inl (by rw [h];rfl)
  ·exact .inr ⟨by rw [h];rfl,by rw [h];rfl⟩
 rcases key with g1|⟨g1,g2⟩
 case' inl =>
  refine Wq<|Wq<|qW 6 14 rfl<|qM rfl<|qH rfl ty24<|qN rfl<|qM rfl<|qD rfl ‹_› rfl<|qD rfl ‹_› rfl<|qD rfl ‹_› rfl<|qP rfl ‹_› rfl<|Nl ?_
 case' inr =>
  refine Wq<|Wq<|qW 6 14 rfl<|qM rfl<|qH rfl ty24<|qN rfl<|qM rfl<|gM rfl ‹_›<|gH rfl ‹_› ty24<|gN rfl ‹_›<|qT rfl ‹_› rfl<|Nl ?_
 all_goals
  refine Wo rfl (by first|rfl|assumption)<|Wu ?_
  repeat (refine Wq ?_)
  refine qW 25 31 rfl<|qM rfl<|qH rfl ty24<|qE rfl<|Od rfl rfl (Bs rfl ty54 (.cons rfl rfl rfl rfl (Sl rfl) .nil))<|qB rfl ty54<|qS rfl ty54 (Sl rfl) rfl<|Nl ?_
  repeat (refine Wq ?_)
  refine qW 35 38 rfl<|qM rfl<|qH rfl ty24<|qM rfl<|Nl<|Wb<|W.loop_keep (α:=Nat) (fun x=>l.length - x) 2 (fun x=>[(2,.own 0 0),(4,.own 1 0),(22,.base (.int .i64 (x:Int)))]) (fun x=>up (up mt 0 (some (adC zAd))) 1 (some (adC ⟨(l.length:Int) == 16,(fb (l.take x)).1,(fb (l.take x)).2⟩))) (fun x=>x≤l.length) 0 [(0,0),(1,29)] (.cons (t:=20) rfl (by exact .inl rfl) (.cons (t:=21) rfl (by exact .inl rfl) .nil)) (show 0≤l.length from Nat.zero_le _) (by decide) ?_ ?_ ?_
  ·exact lC (lI rfl) (lC (lI rfl) (lC (lR rfl) lN))
  ·exact aU (kR rfl) (aU (kR rfl) aM)
  rintro i hIA ihA
  try (dsimp only at hIA)
  try dsimp only [baseT,List.cons_append,List.nil_append]
  by_cases hc:i < l.length
  ·have g5:decide ((i:Int) < (l.length:Int))=true:=decide_eq_true (by omega)
   have hs:=fb_snoc l i hc
   have hx:=hB.at i
   obtain ⟨x,hxe⟩:∃ x,gB l i=x:=⟨_,rfl⟩
   have hat:=by_at hc
   rw [hxe] at hs hx hat
   obtain ⟨p,hp⟩:∃ p,fb (l.take i)=p:=⟨_,rfl⟩
   obtain ⟨q1,q2⟩:=fb_bd (l.take i)
   rw [hp] at hs q1 q2 ⊢
   have e1:bitV .or .u64 (IntKind.u64.wrap (p.1 * 2 ^ (min (8:Int).toNat IntKind.u64.bits))) (p.2.fdiv (2 ^ (min (56:Int).toNat IntKind.u64.bits)))=(fb (l.take (i + 1))).1:=by rw [hs];exact fb_one p x
   have e2:bitV .or .u64 (IntKind.u64.wrap (p.2 * 2 ^ (min (8:Int).toNat IntKind.u64.bits))) x=(fb (l.take (i + 1))).2:=by rw [hs];rfl
   unfold adC
   repeat (refine Wq ?_)
   refine qW 42 43 rfl<|qK rfl<|Nl ?_
   repeat (refine Wq ?_)
   refine Wt rfl ‹_›<|Wu ?_
   repeat (refine Wq ?_)
   refine Wb ?_
   repeat (refine Wq ?_)
   refine qW 47 50 rfl<|qJ rfl rfl ty24 ty5 (by omega)<|Od rfl rfl (Li rfl rfl hat ty5 rfl)<|qA rfl<|Nl ?_
   repeat (refine Wq ?_)
   refine qW 54 63 rfl<|qF rfl ty54 rfl<|qL rfl ty52 rfl<|Od rfl rfl (LO.shl rfl rfl rfl (by omega))<|qF rfl ty54 rfl<|qL rfl ty52 rfl<|Od rfl rfl (LO.shr rfl rfl rfl (by omega))<|Od rfl rfl (LO.or rfl rfl rfl)<|qF rfl ty54 rfl<|qS rfl ty52 (Sl rfl) rfl<|Nl<|qW 67 75 rfl<|qF rfl ty54 rfl<|qL rfl ty52 rfl<|Od rfl rfl (LO.shl rfl rfl rfl (by omega))<|qM rfl<|Od rfl rfl (Ci rfl rfl ty5 ty52 (IntWalk.u64_in _ (by omega)))<|Od rfl rfl (LO.or rfl rfl rfl)<|qF rfl ty54 rfl<|qS rfl ty52 (Sl rfl) rfl<|Nl ?_
   rw [e1,e2]
   refine qW 79 81 rfl<|qZ rfl (iW _ (by omega))<|qM rfl<|Nl<|WL.renameL [(0,0),(1,1)] 2 (by decide) ?_ ?_ (ihA (i + 1) (show l.length - (i + 1) < l.length - i from by omega) (show (i + 1)≤l.length from by omega))
   ·exact lC (lI rfl) (lC (lI rfl) (lC (lR rfl) (lC (lR rfl) (lC (lR rfl) lN))))
   ·exact aU (kR rfl) (aU (kR rfl) aM)
  ·have g5:decide ((i:Int) < (l.length:Int))=false:=decide_eq_false (by omega)
   repeat (refine Wq ?_)
   refine qW 42 43 rfl<|qK rfl<|Nl ?_
   repeat (refine Wq ?_)
   refine Wo rfl ‹_›<|Wx ?_
   obtain rfl:i=l.length:=by omega
   rw [List.take_length]
   unfold adC
   repeat (refine Wq ?_)
   refine qW 85 88 rfl<|qG rfl ty54 rfl (Tl rfl)<|qS rfl ty54 (Sl rfl) rfl<|qA rfl<|Nl<|Wz ⟨.inl rfl,_,mt,(Rc (Ra0 rfl rfl ty54 rfl (Tl rfl)) (Rc (Rt0 rfl) Rv)),aM,?_⟩
   exact ⟨rfl,rfl⟩
end Go.Proofs.YtlcndmciognneaaGreatDoor
