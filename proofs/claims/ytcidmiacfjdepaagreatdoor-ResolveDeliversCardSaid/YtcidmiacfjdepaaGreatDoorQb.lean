/-
  Addresses and bytes as the abstract machine sees them; small functions of addresses and neighbours.
-/
import Derived.Test.YtcidmiacfjdepaaGreatDoorQa
import Derived.Test.YtcidmiacfjdepaaGreatDoorMab
namespace Go.Proofs.YtcidmiacfjdepaaGreatDoor
open Go.RowKit
def adC (a:Ad):List AV:=[.base (.bool a.v6),.base (.int .u64 a.hi),.base (.int .u64 a.lo)]
def bytesC (l:List Int):List AV:=l.map fun z=>.base (.int .u8 z)
theorem bytesC_pure (l:List Int):(bytesC l).all AV.pure1=true:=by
  induction l with
  | nil=>rfl
  | cons x l ih=>rw [show bytesC (x::l)=[.base (.int .u8 x)]++bytesC l from rfl,List.all_append,ih];rfl
theorem bytes_tk {l:List Int} {n:Nat} (h:l.length=n):Tk (bytesC l) 0 (n * 1) (bytesC l):=by
  have:=Tk.all (bytesC l)
  rwa [show (bytesC l).length=n * 1 from by simp [bytesC,h]] at this
theorem gB_at {l:List Int} {k:Nat} (h:k < l.length):gB l k=l[k]:=by simp [gB,h]
theorem by_at {l:List Int} {k:Nat} (h:k < l.length):(bytesC l)[k * 1]?=some (.base (.int .u8 (gB l k))):=by simp [bytesC,gB,h]
theorem by_at0 {l:List Int} {k:Nat} (h:k < l.length):(bytesC l)[0 + k * 1]?=some (.base (.int .u8 (gB l k))):=by simp [bytesC,gB,h]
theorem bytesC_app (a b:List Int):bytesC (a++b)=bytesC a++bytesC b:=by simp [bytesC]
theorem bytesC_len (a:List Int):(bytesC a).length=a.length:=by simp [bytesC]
theorem avalid_any (a:Ad):AFn Tryz.prog 87 0 [.agg (adC a)] mt (.base (.bool (validA a.v6 a.hi a.lo))) mt:=by
  refine AFn.eq Tryz.func87 rfl rfl (Nat.le_of_ble_eq_true rfl) ?_
  unfold adC
  refine Wq (qW 0 2 rfl rfl rfl (qC rfl rfl rfl (qA rfl rfl (Nl (Wq (qW 6 19 rfl rfl rfl (qF rfl rfl ty42 rfl rfl (qL rfl rfl rfl rfl ty4 rfl (qM rfl rfl (RW.split (t:=5) rfl (fun hb1=>?_) (fun hb1=>?_)))))))))))
  ·
    try (have hb1p:=of_decide_eq_true hb1)
    try (have hb1q:=eq_of_beq hb1)
    refine Sd rfl rfl rfl hb1 rfl (Sd rfl rfl rfl hb1 rfl (Sd rfl rfl rfl hb1 rfl (Sd rfl rfl rfl hb1 rfl (Ud rfl rfl rfl rfl (Ud rfl rfl rfl rfl (Ud rfl rfl rfl rfl (Sd rfl rfl rfl hb1 rfl (qT rfl rfl hb1 rfl (qA rfl rfl (Nl (Wz ⟨.inl rfl,_,mt,Rc (Rt rfl) (Rn),all_mt,?_⟩)))))))))))
    exact ⟨by (simp_all [validA,retOf])<;>omega,rfl⟩
  ·
    try (have hb1p:=of_decide_eq_false hb1)
    try (have hb1q:=ne_of_beq_false hb1)
    refine Gd rfl rfl rfl hb1 rfl (Fa rfl rfl ty42 rfl (by decide)) (Gd rfl rfl rfl hb1 rfl (Ld rfl rfl rfl rfl ty40 rfl) (Gd rfl rfl rfl hb1 rfl (Eq0 rfl rfl rfl) (Gd rfl rfl rfl hb1 rfl (Mv rfl rfl) (RW.split (t:=9) rfl (fun hb2=>?_) (fun hb2=>?_)))))
    ·
      try (have hb2p:=of_decide_eq_true hb2)
      try (have hb2q:=eq_of_beq hb2)
      refine Gd rfl rfl rfl hb2 rfl (Fa rfl rfl ty42 rfl (by decide)) (Gd rfl rfl rfl hb2 rfl (Ld rfl rfl rfl rfl ty40 rfl) (Gd rfl rfl rfl hb2 rfl (Ls rfl rfl rfl) (Gd rfl rfl rfl hb1 rfl (Pt rfl rfl hb2 rfl) (qP rfl rfl hb1 rfl (qA rfl rfl (Nl (Wz ⟨.inl rfl,_,mt,Rc (Rt rfl) (Rn),all_mt,?_⟩)))))))
      exact ⟨by (simp_all [validA,retOf])<;>omega,rfl⟩
    ·
      try (have hb2p:=of_decide_eq_false hb2)
      try (have hb2q:=ne_of_beq_false hb2)
      refine Sd rfl rfl rfl hb2 rfl (Sd rfl rfl rfl hb2 rfl (Sd rfl rfl rfl hb2 rfl (Gd rfl rfl rfl hb1 rfl (Pf0 rfl rfl hb2 rfl) (qP rfl rfl hb1 rfl (qA rfl rfl (Nl (Wz ⟨.inl rfl,_,mt,Rc (Rt rfl) (Rn),all_mt,?_⟩)))))))
      exact ⟨by (simp_all [validA,retOf])<;>omega,rfl⟩
theorem rvalid_any (a:Ad):AFn Tryz.prog 83 0 [.agg (adC a)] mt (.base (.bool (validA a.v6 a.hi a.lo))) mt:=by
  refine AFn.eq Tryz.func83 rfl rfl (Nat.le_of_ble_eq_true rfl) ?_
  unfold adC
  refine Wq (qW 0 2 rfl rfl rfl (qC rfl rfl rfl (qA rfl rfl (Nl (Wq (qW 6 19 rfl rfl rfl (qF rfl rfl ty42 rfl rfl (qL rfl rfl rfl rfl ty4 rfl (qM rfl rfl (RW.split (t:=5) rfl (fun hb3=>?_) (fun hb3=>?_)))))))))))
  ·
    try (have hb3p:=of_decide_eq_true hb3)
    try (have hb3q:=eq_of_beq hb3)
    refine Sd rfl rfl rfl hb3 rfl (Sd rfl rfl rfl hb3 rfl (Sd rfl rfl rfl hb3 rfl (Sd rfl rfl rfl hb3 rfl (Ud rfl rfl rfl rfl (Ud rfl rfl rfl rfl (Ud rfl rfl rfl rfl (Sd rfl rfl rfl hb3 rfl (qT rfl rfl hb3 rfl (qA rfl rfl (Nl (Wz ⟨.inl rfl,_,mt,Rc (Rt rfl) (Rn),all_mt,?_⟩)))))))))))
    exact ⟨by (simp_all [validA,retOf])<;>omega,rfl⟩
  ·
    try (have hb3p:=of_decide_eq_false hb3)
    try (have hb3q:=ne_of_beq_false hb3)
    refine Gd rfl rfl rfl hb3 rfl (Fa rfl rfl ty42 rfl (by decide)) (Gd rfl rfl rfl hb3 rfl (Ld rfl rfl rfl rfl ty40 rfl) (Gd rfl rfl rfl hb3 rfl (Eq0 rfl rfl rfl) (Gd rfl rfl rfl hb3 rfl (Mv rfl rfl) (RW.split (t:=9) rfl (fun hb4=>?_) (fun hb4=>?_)))))
    ·
      try (have hb4p:=of_decide_eq_true hb4)
      try (have hb4q:=eq_of_beq hb4)
      refine Gd rfl rfl rfl hb4 rfl (Fa rfl rfl ty42 rfl (by decide)) (Gd rfl rfl rfl hb4 rfl (Ld rfl rfl rfl rfl ty40 rfl) (Gd rfl rfl rfl hb4 rfl (Ls rfl rfl rfl) (Gd rfl rfl rfl hb3 rfl (Pt rfl rfl hb4 rfl) (qP rfl rfl hb3 rfl (qA rfl rfl (Nl (Wz ⟨.inl rfl,_,mt,Rc (Rt rfl) (Rn),all_mt,?_⟩)))))))
      exact ⟨by (simp_all [validA,retOf])<;>omega,rfl⟩
    ·
      try (have hb4p:=of_decide_eq_false hb4)
      try (have hb4q:=ne_of_beq_false hb4)
      refine Sd rfl rfl rfl hb4 rfl (Sd rfl rfl rfl hb4 rfl (Sd rfl rfl rfl hb4 rfl (Gd rfl rfl rfl hb3 rfl (Pf0 rfl rfl hb4 rfl) (qP rfl rfl hb3 rfl (qA rfl rfl (Nl (Wz ⟨.inl rfl,_,mt,Rc (Rt rfl) (Rn),all_mt,?_⟩)))))))
      exact ⟨by (simp_all [validA,retOf])<;>omega,rfl⟩
/-- the first byte is 255 -/
def grpA (a:Ad):Bool:=a.hi.fdiv (2 ^ (min (56:Int).toNat IntKind.u64.bits)) == 255
theorem group_any (a:Ad):AFn Tryz.prog 62 0 [.agg (adC a)] mt (.base (.bool (grpA a))) mt:=by
  refine AFn.eq Tryz.func62 rfl rfl (Nat.le_of_ble_eq_true rfl) ?_
  unfold adC
  refine Wq (qW 0 2 rfl rfl rfl (qC rfl rfl rfl (qA rfl rfl (Nl (Wq (qW 6 11 rfl rfl rfl (qF rfl rfl ty42 rfl rfl (qL rfl rfl rfl rfl ty40 rfl (Od rfl rfl (LO.shr rfl rfl rfl (by first|omega|decide|assumption|(simp;done)|(simp;omega))) (qE rfl rfl rfl (qA rfl rfl (Nl (Wz ⟨.inl rfl,_,mt,Rc (Rt rfl) (Rn),all_mt,?_⟩)))))))))))))
  exact ⟨rfl,rfl⟩
theorem groupX_any (a:Ad):AFn Tryz.prog 72 0 [.agg (adC a)] mt (.base (.bool (grpA a))) mt:=by
  refine AFn.eq Tryz.func72 rfl rfl (Nat.le_of_ble_eq_true rfl) ?_
  unfold adC
  refine Wq (qW 0 2 rfl rfl rfl (qC rfl rfl rfl (qA rfl rfl (Nl (Wq (qW 6 11 rfl rfl rfl (qF rfl rfl ty42 rfl rfl (qL rfl rfl rfl rfl ty40 rfl (Od rfl rfl (LO.shr rfl rfl rfl (by first|omega|decide|assumption|(simp;done)|(simp;omega))) (qE rfl rfl rfl (qA rfl rfl (Nl (Wz ⟨.inl rfl,_,mt,Rc (Rt rfl) (Rn),all_mt,?_⟩)))))))))))))
  exact ⟨rfl,rfl⟩
def targB (k:Int):Bool:=decide (135≤k) && decide (k≤137)
theorem targeted_any (k:Int):AFn Tryz.prog 61 0 [.base (.int .i64 k)] mt (.base (.bool (targB k))) mt:=by
  refine AFn.eq Tryz.func61 rfl rfl (Nat.le_of_ble_eq_true rfl) (Wq (qW 0 1 rfl rfl rfl (qA rfl rfl (Nl (Wq (qW 5 12 rfl rfl rfl (qM rfl rfl (Od rfl rfl (Ge0 rfl rfl rfl) (qM rfl rfl (RW.split (t:=5) rfl (fun hb5=>?_) (fun hb5=>?_)))))))))))
  ·
    try (have hb5p:=of_decide_eq_true hb5)
    try (have hb5q:=eq_of_beq hb5)
    refine Gd rfl rfl rfl hb5 rfl (Mv rfl rfl) (Gd rfl rfl rfl hb5 rfl (Le0 rfl rfl rfl) (qT rfl rfl hb5 rfl (qA rfl rfl (Nl (Wz ⟨.inl rfl,_,mt,Rc (Rt rfl) (Rn),all_mt,?_⟩)))))
    exact ⟨by (simp_all [targB,retOf])<;>omega,rfl⟩
  ·
    try (have hb5p:=of_decide_eq_false hb5)
    try (have hb5q:=ne_of_beq_false hb5)
    refine Sd rfl rfl rfl hb5 rfl (Sd rfl rfl rfl hb5 rfl (qP rfl rfl hb5 rfl (qA rfl rfl (Nl (Wz ⟨.inl rfl,_,mt,Rc (Rt rfl) (Rn),all_mt,?_⟩)))))
    exact ⟨by (simp_all [targB,retOf])<;>omega,rfl⟩
theorem targetedX_any (k:Int):AFn Tryz.prog 71 0 [.base (.int .i64 k)] mt (.base (.bool (targB k))) mt:=by
  refine AFn.eq Tryz.func71 rfl rfl (Nat.le_of_ble_eq_true rfl) (Wq (qW 0 1 rfl rfl rfl (qA rfl rfl (Nl (Wq (qW 5 12 rfl rfl rfl (qM rfl rfl (Od rfl rfl (Ge0 rfl rfl rfl) (qM rfl rfl (RW.split (t:=5) rfl (fun hb6=>?_) (fun hb6=>?_)))))))))))
  ·
    try (have hb6p:=of_decide_eq_true hb6)
    try (have hb6q:=eq_of_beq hb6)
    refine Gd rfl rfl rfl hb6 rfl (Mv rfl rfl) (Gd rfl rfl rfl hb6 rfl (Le0 rfl rfl rfl) (qT rfl rfl hb6 rfl (qA rfl rfl (Nl (Wz ⟨.inl rfl,_,mt,Rc (Rt rfl) (Rn),all_mt,?_⟩)))))
    exact ⟨by (simp_all [targB,retOf])<;>omega,rfl⟩
  ·
    try (have hb6p:=of_decide_eq_false hb6)
    try (have hb6q:=ne_of_beq_false hb6)
    refine Sd rfl rfl rfl hb6 rfl (Sd rfl rfl rfl hb6 rfl (qP rfl rfl hb6 rfl (qA rfl rfl (Nl (Wz ⟨.inl rfl,_,mt,Rc (Rt rfl) (Rn),all_mt,?_⟩)))))
    exact ⟨by (simp_all [targB,retOf])<;>omega,rfl⟩
def optN (k:Int):Int:=if k=136∨k=137 then 2 else 1
theorem option_any (k:Int):AFn Tryz.prog 64 0 [.base (.int .i64 k)] mt (.base (.int .u8 (optN k))) mt:=by
  refine AFn.eq Tryz.func64 rfl rfl (Nat.le_of_ble_eq_true rfl) (Wq (qW 0 1 rfl rfl rfl (qA rfl rfl (Nl (Wq (Wq (qW 5 11 rfl rfl rfl (qM rfl rfl (qE rfl rfl rfl (qM rfl rfl (RW.split (t:=5) rfl (fun hb7=>?_) (fun hb7=>?_))))))))))))
  ·
    try (have hb7p:=of_decide_eq_true hb7)
    try (have hb7q:=eq_of_beq hb7)
    refine Sd rfl rfl rfl hb7 rfl (Sd rfl rfl rfl hb7 rfl (qT rfl rfl hb7 rfl (Nl (Wt rfl rfl (Wq (qW 15 16 rfl rfl rfl (qA rfl rfl (Nl (Wz ⟨.inl rfl,_,mt,Rc (Rt rfl) (Rn),all_mt,?_⟩)))))))))
    exact ⟨by (simp_all [optN,retOf])<;>omega,rfl⟩
  ·
    try (have hb7p:=of_decide_eq_false hb7)
    try (have hb7q:=ne_of_beq_false hb7)
    refine Gd rfl rfl rfl hb7 rfl (Mv rfl rfl) (Gd rfl rfl rfl hb7 rfl (Eq0 rfl rfl rfl) (qP rfl rfl hb7 rfl (Nl (W.cond rfl (fun hb8=>?_) (fun hb8=>?_)))))
    ·
      try (have hb8p:=of_decide_eq_true hb8)
      try (have hb8q:=eq_of_beq hb8)
      refine Wq (qW 15 16 rfl rfl rfl (qA rfl rfl (Nl (Wz ⟨.inl rfl,_,mt,Rc (Rt rfl) (Rn),all_mt,?_⟩))))
      exact ⟨by (simp_all [optN,retOf])<;>omega,rfl⟩
    ·
      try (have hb8p:=of_decide_eq_false hb8)
      try (have hb8q:=ne_of_beq_false hb8)
      refine Wk (Wq (qW 20 21 rfl rfl rfl (qA rfl rfl (Nl (Wz ⟨.inl rfl,_,mt,Rc (Rt rfl) (Rn),all_mt,?_⟩)))))
      exact ⟨by (simp_all [optN,retOf])<;>omega,rfl⟩
theorem optionX_any (k:Int):AFn Tryz.prog 73 0 [.base (.int .i64 k)] mt (.base (.int .u8 (optN k))) mt:=by
  refine AFn.eq Tryz.func73 rfl rfl (Nat.le_of_ble_eq_true rfl) (Wq (qW 0 1 rfl rfl rfl (qA rfl rfl (Nl (Wq (Wq (qW 5 11 rfl rfl rfl (qM rfl rfl (qE rfl rfl rfl (qM rfl rfl (RW.split (t:=5) rfl (fun hb9=>?_) (fun hb9=>?_))))))))))))
  ·
    try (have hb9p:=of_decide_eq_true hb9)
    try (have hb9q:=eq_of_beq hb9)
    refine Sd rfl rfl rfl hb9 rfl (Sd rfl rfl rfl hb9 rfl (qT rfl rfl hb9 rfl (Nl (Wt rfl rfl (Wq (qW 15 16 rfl rfl rfl (qA rfl rfl (Nl (Wz ⟨.inl rfl,_,mt,Rc (Rt rfl) (Rn),all_mt,?_⟩)))))))))
    exact ⟨by (simp_all [optN,retOf])<;>omega,rfl⟩
  ·
    try (have hb9p:=of_decide_eq_false hb9)
    try (have hb9q:=ne_of_beq_false hb9)
    refine Gd rfl rfl rfl hb9 rfl (Mv rfl rfl) (Gd rfl rfl rfl hb9 rfl (Eq0 rfl rfl rfl) (qP rfl rfl hb9 rfl (Nl (W.cond rfl (fun hb10=>?_) (fun hb10=>?_)))))
    ·
      try (have hb10p:=of_decide_eq_true hb10)
      try (have hb10q:=eq_of_beq hb10)
      refine Wq (qW 15 16 rfl rfl rfl (qA rfl rfl (Nl (Wz ⟨.inl rfl,_,mt,Rc (Rt rfl) (Rn),all_mt,?_⟩))))
      exact ⟨by (simp_all [optN,retOf])<;>omega,rfl⟩
    ·
      try (have hb10p:=of_decide_eq_false hb10)
      try (have hb10q:=ne_of_beq_false hb10)
      refine Wk (Wq (qW 20 21 rfl rfl rfl (qA rfl rfl (Nl (Wz ⟨.inl rfl,_,mt,Rc (Rt rfl) (Rn),all_mt,?_⟩)))))
      exact ⟨by (simp_all [optN,retOf])<;>omega,rfl⟩
def fixN (k:Int):Nat:=if k=133 then 4 else if k=134 then 12 else if k=137 then 36 else 20
theorem fixedX_any (k:Int):AFn Tryz.prog 70 0 [.base (.int .i64 k)] mt (.base (.int .i64 (fixN k:Nat))) mt:=by
  refine AFn.eq Tryz.func70 rfl rfl (Nat.le_of_ble_eq_true rfl) (Wq (qW 0 1 rfl rfl rfl (qA rfl rfl (Nl (Wq (Wq (qW 5 6 rfl rfl rfl (qM rfl rfl (Nl (Wb (Wq (qW 10 12 rfl rfl rfl (qE rfl rfl rfl (qA rfl rfl (Nl (W.cond rfl (fun hb11=>?_) (fun hb11=>?_)))))))))))))))))
  ·
    try (have hb11p:=of_decide_eq_true hb11)
    try (have hb11q:=eq_of_beq hb11)
    refine Wq (qW 16 17 rfl rfl rfl (qA rfl rfl (Nl (Wz ⟨.inl rfl,_,mt,Rc (Rt rfl) (Rn),all_mt,?_⟩))))
    exact ⟨by (simp_all [fixN,retOf])<;>omega,rfl⟩
  ·
    try (have hb11p:=of_decide_eq_false hb11)
    try (have hb11q:=ne_of_beq_false hb11)
    refine Wq (qW 21 23 rfl rfl rfl (qE rfl rfl rfl (qA rfl rfl (Nl (W.cond rfl (fun hb12=>?_) (fun hb12=>?_))))))
    ·
      try (have hb12p:=of_decide_eq_true hb12)
      try (have hb12q:=eq_of_beq hb12)
      refine Wq (qW 27 28 rfl rfl rfl (qA rfl rfl (Nl (Wz ⟨.inl rfl,_,mt,Rc (Rt rfl) (Rn),all_mt,?_⟩))))
      exact ⟨by (simp_all [fixN,retOf])<;>omega,rfl⟩
    ·
      try (have hb12p:=of_decide_eq_false hb12)
      try (have hb12q:=ne_of_beq_false hb12)
      refine Wq (qW 32 34 rfl rfl rfl (qE rfl rfl rfl (qA rfl rfl (Nl (W.cond rfl (fun hb13=>?_) (fun hb13=>?_))))))
      ·
        try (have hb13p:=of_decide_eq_true hb13)
        try (have hb13q:=eq_of_beq hb13)
        refine Wq (qW 38 39 rfl rfl rfl (qA rfl rfl (Nl (Wz ⟨.inl rfl,_,mt,Rc (Rt rfl) (Rn),all_mt,?_⟩))))
        exact ⟨by (simp_all [fixN,retOf])<;>omega,rfl⟩
      ·
        try (have hb13p:=of_decide_eq_false hb13)
        try (have hb13q:=ne_of_beq_false hb13)
        refine Wk (Wq (qW 43 44 rfl rfl rfl (qA rfl rfl (Nl (Wz ⟨.inl rfl,_,mt,Rc (Rt rfl) (Rn),all_mt,?_⟩)))))
        exact ⟨by (simp_all [fixN,retOf])<;>omega,rfl⟩
/-- packets -/
structure Pk where
  s:Ad
  d:Ad
  p:Int
  t:Int
  bs:List Int
def pkC (x:Pk):List AV:=adC x.s++adC x.d++[.base (.int .i64 x.p),.base (.int .i64 x.t),.isl (bytesC x.bs) x.bs.length]
def vpk (x:Pk):Bool:=validP x.s x.d x.p x.t x.bs.length
theorem pvalid_any (x:Pk):AFn Tryz.prog 58 0 [.agg (pkC x)] mt (.base (.bool (vpk x))) mt:=by
  refine AFn.eq Tryz.func58 rfl rfl (Nat.le_of_ble_eq_true rfl) ?_
  have hav:=avalid_any
  unfold adC at hav
  unfold pkC adC
  refine Wq (qW 0 2 rfl rfl rfl (qC rfl rfl rfl (qA rfl rfl (Nl (Wq (qW 6 7 rfl rfl rfl (qA rfl rfl (Nl (Wq (Wq (qW 11 14 rfl rfl rfl (qF rfl rfl ty74 rfl rfl (qF rfl rfl ty42 rfl rfl (qL rfl rfl rfl rfl ty4 rfl (Nl (W.cond rfl (fun hb14=>?_) (fun hb14=>?_)))))))))))))))))
  ·
    try (have hb14p:=of_decide_eq_true hb14)
    try (have hb14q:=eq_of_beq hb14)
    refine qW 18 19 rfl rfl rfl (qA rfl rfl (Nl (Wq (qW 23 68 rfl rfl rfl (qF rfl rfl ty74 rfl rfl (qG rfl rfl rfl ty42 rfl (Tl rfl) (Od rfl rfl (C0 (fr:=[]) rfl rfl (hav _) fok87 (.cons rfl (.pure rfl) .nil) rfl) (qM rfl rfl (RW.split (t:=10) rfl (fun hb15=>?_) (fun hb15=>?_))))))))))
    ·
      try (have hb15p:=of_decide_eq_true hb15)
      try (have hb15q:=eq_of_beq hb15)
      refine Gd rfl rfl rfl hb15 rfl (Fa rfl rfl ty74 rfl (by decide)) (Gd rfl rfl rfl hb15 rfl (La rfl rfl rfl ty42 rfl (Tl rfl)) (Gd rfl rfl rfl hb15 rfl (C0 (fr:=[]) rfl rfl (hav _) fok87 (.cons rfl (.pure rfl) .nil) rfl) (qT rfl rfl hb15 rfl (qM rfl rfl (RW.split (t:=15) rfl (fun hb16=>?_) (fun hb16=>?_))))))
      ·
        try (have hb16p:=of_decide_eq_true hb16)
        try (have hb16q:=eq_of_beq hb16)
        refine Gd rfl rfl rfl hb16 rfl (Fa rfl rfl ty74 rfl (by decide)) (Gd rfl rfl rfl hb16 rfl (Fa rfl rfl ty42 rfl (by decide)) (Gd rfl rfl rfl hb16 rfl (Ld rfl rfl rfl rfl ty4 rfl) (Gd rfl rfl rfl hb16 rfl (Fa rfl rfl ty74 rfl (by decide)) (Gd rfl rfl rfl hb16 rfl (Fa rfl rfl ty42 rfl (by decide)) (Gd rfl rfl rfl hb16 rfl (Ld rfl rfl rfl rfl ty4 rfl) (Gd rfl rfl rfl hb16 rfl (LO.eql_bool rfl rfl rfl ty4) (qT rfl rfl hb16 rfl (qM rfl rfl (RW.split (t:=24) rfl (fun hb17=>?_) (fun hb17=>?_))))))))))
        ·
          try (have hb17p:=of_decide_eq_true hb17)
          try (have hb17q:=eq_of_beq hb17)
          refine Gd rfl rfl rfl hb17 rfl (Fa rfl rfl ty74 rfl (by decide)) (Gd rfl rfl rfl hb17 rfl (Ld rfl rfl rfl rfl ty3 rfl) (Gd rfl rfl rfl hb17 rfl (Ge0 rfl rfl rfl) (qT rfl rfl hb17 rfl (qM rfl rfl (RW.split (t:=29) rfl (fun hb18=>?_) (fun hb18=>?_))))))
          ·
            try (have hb18p:=of_decide_eq_true hb18)
            try (have hb18q:=eq_of_beq hb18)
            refine Gd rfl rfl rfl hb18 rfl (Fa rfl rfl ty74 rfl (by decide)) (Gd rfl rfl rfl hb18 rfl (Ld rfl rfl rfl rfl ty3 rfl) (Gd rfl rfl rfl hb18 rfl (Le0 rfl rfl rfl) (qT rfl rfl hb18 rfl (qM rfl rfl (RW.split (t:=34) rfl (fun hb19=>?_) (fun hb19=>?_))))))
            ·
              try (have hb19p:=of_decide_eq_true hb19)
              try (have hb19q:=eq_of_beq hb19)
              refine Gd rfl rfl rfl hb19 rfl (Fa rfl rfl ty74 rfl (by decide)) (Gd rfl rfl rfl hb19 rfl (Ld rfl rfl rfl rfl ty3 rfl) (Gd rfl rfl rfl hb19 rfl (Ge0 rfl rfl rfl) (qT rfl rfl hb19 rfl (qM rfl rfl (RW.split (t:=39) rfl (fun hb20=>?_) (fun hb20=>?_))))))
              ·
                try (have hb20p:=of_decide_eq_true hb20)
                try (have hb20q:=eq_of_beq hb20)
                refine Gd rfl rfl rfl hb20 rfl (Fa rfl rfl ty74 rfl (by decide)) (Gd rfl rfl rfl hb20 rfl (Ld rfl rfl rfl rfl ty3 rfl) (Gd rfl rfl rfl hb20 rfl (Le0 rfl rfl rfl) (qT rfl rfl hb20 rfl (qM rfl rfl (RW.split (t:=44) rfl (fun hb21=>?_) (fun hb21=>?_))))))
                ·
                  try (have hb21p:=of_decide_eq_true hb21)
                  try (have hb21q:=eq_of_beq hb21)
                  refine Gd rfl rfl rfl hb21 rfl (Fa rfl rfl ty74 rfl (by decide)) (Gd rfl rfl rfl hb21 rfl (Ld rfl rfl rfl rfl ty24 rfl) (Gd rfl rfl rfl hb21 rfl (Ln rfl rfl rfl ty24) (Gd rfl rfl rfl hb21 rfl (Mv rfl rfl) (Gd rfl rfl rfl hb21 rfl (Le0 rfl rfl rfl) (qT rfl rfl hb21 rfl (qA rfl rfl (Nl (Wz ⟨.inl rfl,_,mt,Rc (Rt rfl) (Rn),all_mt,?_⟩))))))))
                  exact ⟨by (simp_all [vpk,validP,mostP,retOf])<;>omega,rfl⟩
                ·
                  try (have hb21p:=of_decide_eq_false hb21)
                  try (have hb21q:=ne_of_beq_false hb21)
                  refine Sd rfl rfl rfl hb21 rfl (Sd rfl rfl rfl hb21 rfl (Sd rfl rfl rfl hb21 rfl (Sd rfl rfl rfl hb21 rfl (Sd rfl rfl rfl hb21 rfl (qP rfl rfl hb21 rfl (qA rfl rfl (Nl (Wz ⟨.inl rfl,_,mt,Rc (Rt rfl) (Rn),all_mt,?_⟩))))))))
                  exact ⟨by (simp_all [vpk,validP,mostP,retOf])<;>omega,rfl⟩
              ·
                try (have hb20p:=of_decide_eq_false hb20)
                try (have hb20q:=ne_of_beq_false hb20)
                refine Sd rfl rfl rfl hb20 rfl (Sd rfl rfl rfl hb20 rfl (Sd rfl rfl rfl hb20 rfl (qP rfl rfl hb20 rfl (qM rfl rfl (Sd rfl rfl rfl rfl rfl (Sd rfl rfl rfl rfl rfl (Sd rfl rfl rfl rfl rfl (Sd rfl rfl rfl rfl rfl (Sd rfl rfl rfl rfl rfl (qP rfl rfl rfl rfl (qA rfl rfl (Nl (Wz ⟨.inl rfl,_,mt,Rc (Rt rfl) (Rn),all_mt,?_⟩)))))))))))))
                exact ⟨by (simp_all [vpk,validP,mostP,retOf])<;>omega,rfl⟩
            ·
              try (have hb19p:=of_decide_eq_false hb19)
              try (have hb19q:=ne_of_beq_false hb19)
              refine Sd rfl rfl rfl hb19 rfl (Sd rfl rfl rfl hb19 rfl (Sd rfl rfl rfl hb19 rfl (qP rfl rfl hb19 rfl (qM rfl rfl (Sd rfl rfl rfl rfl rfl (Sd rfl rfl rfl rfl rfl (Sd rfl rfl rfl rfl rfl (qP rfl rfl rfl rfl (qM rfl rfl (Sd rfl rfl rfl rfl rfl (Sd rfl rfl rfl rfl rfl (Sd rfl rfl rfl rfl rfl (Sd rfl rfl rfl rfl rfl (Sd rfl rfl rfl rfl rfl (qP rfl rfl rfl rfl (qA rfl rfl (Nl (Wz ⟨.inl rfl,_,mt,Rc (Rt rfl) (Rn),all_mt,?_⟩))))))))))))))))))
              exact ⟨by (simp_all [vpk,validP,mostP,retOf])<;>omega,rfl⟩
          ·
            try (have hb18p:=of_decide_eq_false hb18)
            try (have hb18q:=ne_of_beq_false hb18)
            refine Sd rfl rfl rfl hb18 rfl (Sd rfl rfl rfl hb18 rfl (Sd rfl rfl rfl hb18 rfl (qP rfl rfl hb18 rfl (qM rfl rfl (Sd rfl rfl rfl rfl rfl (Sd rfl rfl rfl rfl rfl (Sd rfl rfl rfl rfl rfl (qP rfl rfl rfl rfl (qM rfl rfl (Sd rfl rfl rfl rfl rfl (Sd rfl rfl rfl rfl rfl (Sd rfl rfl rfl rfl rfl (qP rfl rfl rfl rfl (qM rfl rfl (Sd rfl rfl rfl rfl rfl (Sd rfl rfl rfl rfl rfl (Sd rfl rfl rfl rfl rfl (Sd rfl rfl rfl rfl rfl (Sd rfl rfl rfl rfl rfl (qP rfl rfl rfl rfl (qA rfl rfl (Nl (Wz ⟨.inl rfl,_,mt,Rc (Rt rfl) (Rn),all_mt,?_⟩)))))))))))))))))))))))
            exact ⟨by (simp_all [vpk,validP,mostP,retOf])<;>omega,rfl⟩
        ·
          try (have hb17p:=of_decide_eq_false hb17)
          try (have hb17q:=ne_of_beq_false hb17)
          refine Sd rfl rfl rfl hb17 rfl (Sd rfl rfl rfl hb17 rfl (Sd rfl rfl rfl hb17 rfl (qP rfl rfl hb17 rfl (qM rfl rfl (Sd rfl rfl rfl rfl rfl (Sd rfl rfl rfl rfl rfl (Sd rfl rfl rfl rfl rfl (qP rfl rfl rfl rfl (qM rfl rfl (Sd rfl rfl rfl rfl rfl (Sd rfl rfl rfl rfl rfl (Sd rfl rfl rfl rfl rfl (qP rfl rfl rfl rfl (qM rfl rfl (Sd rfl rfl rfl rfl rfl (Sd rfl rfl rfl rfl rfl (Sd rfl rfl rfl rfl rfl (qP rfl rfl rfl rfl (qM rfl rfl (Sd rfl rfl rfl rfl rfl (Sd rfl rfl rfl rfl rfl (Sd rfl rfl rfl rfl rfl (Sd rfl rfl rfl rfl rfl (Sd rfl rfl rfl rfl rfl (qP rfl rfl rfl rfl (qA rfl rfl (Nl (Wz ⟨.inl rfl,_,mt,Rc (Rt rfl) (Rn),all_mt,?_⟩))))))))))))))))))))))))))))
          exact ⟨by (simp_all [vpk,validP,mostP,retOf])<;>omega,rfl⟩
      ·
        try (have hb16p:=of_decide_eq_false hb16)
        try (have hb16q:=ne_of_beq_false hb16)
        refine Sd rfl rfl rfl hb16 rfl (Sd rfl rfl rfl hb16 rfl (Sd rfl rfl rfl hb16 rfl (Sd rfl rfl rfl hb16 rfl (Sd rfl rfl rfl hb16 rfl (Sd rfl rfl rfl hb16 rfl (Sd rfl rfl rfl hb16 rfl (qP rfl rfl hb16 rfl (qM rfl rfl (Sd rfl rfl rfl rfl rfl (Sd rfl rfl rfl rfl rfl (Sd rfl rfl rfl rfl rfl (qP rfl rfl rfl rfl (qM rfl rfl (Sd rfl rfl rfl rfl rfl (Sd rfl rfl rfl rfl rfl (Sd rfl rfl rfl rfl rfl (qP rfl rfl rfl rfl (qM rfl rfl (Sd rfl rfl rfl rfl rfl (Sd rfl rfl rfl rfl rfl (Sd rfl rfl rfl rfl rfl (qP rfl rfl rfl rfl (qM rfl rfl (Sd rfl rfl rfl rfl rfl (Sd rfl rfl rfl rfl rfl (Sd rfl rfl rfl rfl rfl (qP rfl rfl rfl rfl (qM rfl rfl (Sd rfl rfl rfl rfl rfl (Sd rfl rfl rfl rfl rfl (Sd rfl rfl rfl rfl rfl (Sd rfl rfl rfl rfl rfl (Sd rfl rfl rfl rfl rfl (qP rfl rfl rfl rfl (qA rfl rfl (Nl (Wz ⟨.inl rfl,_,mt,Rc (Rt rfl) (Rn),all_mt,?_⟩)))))))))))))))))))))))))))))))))))))
        exact ⟨by (simp_all [vpk,validP,mostP,retOf])<;>omega,rfl⟩
    ·
      try (have hb15p:=of_decide_eq_false hb15)
      try (have hb15q:=ne_of_beq_false hb15)
      refine Sd rfl rfl rfl hb15 rfl (Sd rfl rfl rfl hb15 rfl (Sd rfl rfl rfl hb15 rfl (qP rfl rfl hb15 rfl (qM rfl rfl (Sd rfl rfl rfl rfl rfl (Sd rfl rfl rfl rfl rfl (Sd rfl rfl rfl rfl rfl (Sd rfl rfl rfl rfl rfl (Sd rfl rfl rfl rfl rfl (Sd rfl rfl rfl rfl rfl (Sd rfl rfl rfl rfl rfl (qP rfl rfl rfl rfl (qM rfl rfl (Sd rfl rfl rfl rfl rfl (Sd rfl rfl rfl rfl rfl (Sd rfl rfl rfl rfl rfl (qP rfl rfl rfl rfl (qM rfl rfl (Sd rfl rfl rfl rfl rfl (Sd rfl rfl rfl rfl rfl (Sd rfl rfl rfl rfl rfl (qP rfl rfl rfl rfl (qM rfl rfl (Sd rfl rfl rfl rfl rfl (Sd rfl rfl rfl rfl rfl (Sd rfl rfl rfl rfl rfl (qP rfl rfl rfl rfl (qM rfl rfl (Sd rfl rfl rfl rfl rfl (Sd rfl rfl rfl rfl rfl (Sd rfl rfl rfl rfl rfl (qP rfl rfl rfl rfl (qM rfl rfl (Sd rfl rfl rfl rfl rfl (Sd rfl rfl rfl rfl rfl (Sd rfl rfl rfl rfl rfl (Sd rfl rfl rfl rfl rfl (Sd rfl rfl rfl rfl rfl (qP rfl rfl rfl rfl (qA rfl rfl (Nl (Wz ⟨.inl rfl,_,mt,Rc (Rt rfl) (Rn),all_mt,?_⟩))))))))))))))))))))))))))))))))))))))))))
      exact ⟨by (simp_all [vpk,validP,mostP,retOf])<;>omega,rfl⟩
  ·
    try (have hb14p:=of_decide_eq_false hb14)
    try (have hb14q:=ne_of_beq_false hb14)
    refine Wk (Wq (qW 23 68 rfl rfl rfl (qF rfl rfl ty74 rfl rfl (qG rfl rfl rfl ty42 rfl (Tl rfl) (Od rfl rfl (C0 (fr:=[]) rfl rfl (hav _) fok87 (.cons rfl (.pure rfl) .nil) rfl) (qM rfl rfl (RW.split (t:=10) rfl (fun hb22=>?_) (fun hb22=>?_))))))))
    ·
      try (have hb22p:=of_decide_eq_true hb22)
      try (have hb22q:=eq_of_beq hb22)
      refine Gd rfl rfl rfl hb22 rfl (Fa rfl rfl ty74 rfl (by decide)) (Gd rfl rfl rfl hb22 rfl (La rfl rfl rfl ty42 rfl (Tl rfl)) (Gd rfl rfl rfl hb22 rfl (C0 (fr:=[]) rfl rfl (hav _) fok87 (.cons rfl (.pure rfl) .nil) rfl) (qT rfl rfl hb22 rfl (qM rfl rfl (RW.split (t:=15) rfl (fun hb23=>?_) (fun hb23=>?_))))))
      ·
        try (have hb23p:=of_decide_eq_true hb23)
        try (have hb23q:=eq_of_beq hb23)
        refine Gd rfl rfl rfl hb23 rfl (Fa rfl rfl ty74 rfl (by decide)) (Gd rfl rfl rfl hb23 rfl (Fa rfl rfl ty42 rfl (by decide)) (Gd rfl rfl rfl hb23 rfl (Ld rfl rfl rfl rfl ty4 rfl) (Gd rfl rfl rfl hb23 rfl (Fa rfl rfl ty74 rfl (by decide)) (Gd rfl rfl rfl hb23 rfl (Fa rfl rfl ty42 rfl (by decide)) (Gd rfl rfl rfl hb23 rfl (Ld rfl rfl rfl rfl ty4 rfl) (Gd rfl rfl rfl hb23 rfl (LO.eql_bool rfl rfl rfl ty4) (qT rfl rfl hb23 rfl (qM rfl rfl (RW.split (t:=24) rfl (fun hb24=>?_) (fun hb24=>?_))))))))))
        ·
          try (have hb24p:=of_decide_eq_true hb24)
          try (have hb24q:=eq_of_beq hb24)
          refine Gd rfl rfl rfl hb24 rfl (Fa rfl rfl ty74 rfl (by decide)) (Gd rfl rfl rfl hb24 rfl (Ld rfl rfl rfl rfl ty3 rfl) (Gd rfl rfl rfl hb24 rfl (Ge0 rfl rfl rfl) (qT rfl rfl hb24 rfl (qM rfl rfl (RW.split (t:=29) rfl (fun hb25=>?_) (fun hb25=>?_))))))
          ·
            try (have hb25p:=of_decide_eq_true hb25)
            try (have hb25q:=eq_of_beq hb25)
            refine Gd rfl rfl rfl hb25 rfl (Fa rfl rfl ty74 rfl (by decide)) (Gd rfl rfl rfl hb25 rfl (Ld rfl rfl rfl rfl ty3 rfl) (Gd rfl rfl rfl hb25 rfl (Le0 rfl rfl rfl) (qT rfl rfl hb25 rfl (qM rfl rfl (RW.split (t:=34) rfl (fun hb26=>?_) (fun hb26=>?_))))))
            ·
              try (have hb26p:=of_decide_eq_true hb26)
              try (have hb26q:=eq_of_beq hb26)
              refine Gd rfl rfl rfl hb26 rfl (Fa rfl rfl ty74 rfl (by decide)) (Gd rfl rfl rfl hb26 rfl (Ld rfl rfl rfl rfl ty3 rfl) (Gd rfl rfl rfl hb26 rfl (Ge0 rfl rfl rfl) (qT rfl rfl hb26 rfl (qM rfl rfl (RW.split (t:=39) rfl (fun hb27=>?_) (fun hb27=>?_))))))
              ·
                try (have hb27p:=of_decide_eq_true hb27)
                try (have hb27q:=eq_of_beq hb27)
                refine Gd rfl rfl rfl hb27 rfl (Fa rfl rfl ty74 rfl (by decide)) (Gd rfl rfl rfl hb27 rfl (Ld rfl rfl rfl rfl ty3 rfl) (Gd rfl rfl rfl hb27 rfl (Le0 rfl rfl rfl) (qT rfl rfl hb27 rfl (qM rfl rfl (RW.split (t:=44) rfl (fun hb28=>?_) (fun hb28=>?_))))))
                ·
                  try (have hb28p:=of_decide_eq_true hb28)
                  try (have hb28q:=eq_of_beq hb28)
                  refine Gd rfl rfl rfl hb28 rfl (Fa rfl rfl ty74 rfl (by decide)) (Gd rfl rfl rfl hb28 rfl (Ld rfl rfl rfl rfl ty24 rfl) (Gd rfl rfl rfl hb28 rfl (Ln rfl rfl rfl ty24) (Gd rfl rfl rfl hb28 rfl (Mv rfl rfl) (Gd rfl rfl rfl hb28 rfl (Le0 rfl rfl rfl) (qT rfl rfl hb28 rfl (qA rfl rfl (Nl (Wz ⟨.inl rfl,_,mt,Rc (Rt rfl) (Rn),all_mt,?_⟩))))))))
                  exact ⟨by (simp_all [vpk,validP,mostP,retOf])<;>omega,rfl⟩
                ·
                  try (have hb28p:=of_decide_eq_false hb28)
                  try (have hb28q:=ne_of_beq_false hb28)
                  refine Sd rfl rfl rfl hb28 rfl (Sd rfl rfl rfl hb28 rfl (Sd rfl rfl rfl hb28 rfl (Sd rfl rfl rfl hb28 rfl (Sd rfl rfl rfl hb28 rfl (qP rfl rfl hb28 rfl (qA rfl rfl (Nl (Wz ⟨.inl rfl,_,mt,Rc (Rt rfl) (Rn),all_mt,?_⟩))))))))
                  exact ⟨by (simp_all [vpk,validP,mostP,retOf])<;>omega,rfl⟩
              ·
                try (have hb27p:=of_decide_eq_false hb27)
                try (have hb27q:=ne_of_beq_false hb27)
                refine Sd rfl rfl rfl hb27 rfl (Sd rfl rfl rfl hb27 rfl (Sd rfl rfl rfl hb27 rfl (qP rfl rfl hb27 rfl (qM rfl rfl (Sd rfl rfl rfl rfl rfl (Sd rfl rfl rfl rfl rfl (Sd rfl rfl rfl rfl rfl (Sd rfl rfl rfl rfl rfl (Sd rfl rfl rfl rfl rfl (qP rfl rfl rfl rfl (qA rfl rfl (Nl (Wz ⟨.inl rfl,_,mt,Rc (Rt rfl) (Rn),all_mt,?_⟩)))))))))))))
                exact ⟨by (simp_all [vpk,validP,mostP,retOf])<;>omega,rfl⟩
            ·
              try (have hb26p:=of_decide_eq_false hb26)
              try (have hb26q:=ne_of_beq_false hb26)
              refine Sd rfl rfl rfl hb26 rfl (Sd rfl rfl rfl hb26 rfl (Sd rfl rfl rfl hb26 rfl (qP rfl rfl hb26 rfl (qM rfl rfl (Sd rfl rfl rfl rfl rfl (Sd rfl rfl rfl rfl rfl (Sd rfl rfl rfl rfl rfl (qP rfl rfl rfl rfl (qM rfl rfl (Sd rfl rfl rfl rfl rfl (Sd rfl rfl rfl rfl rfl (Sd rfl rfl rfl rfl rfl (Sd rfl rfl rfl rfl rfl (Sd rfl rfl rfl rfl rfl (qP rfl rfl rfl rfl (qA rfl rfl (Nl (Wz ⟨.inl rfl,_,mt,Rc (Rt rfl) (Rn),all_mt,?_⟩))))))))))))))))))
              exact ⟨by (simp_all [vpk,validP,mostP,retOf])<;>omega,rfl⟩
          ·
            try (have hb25p:=of_decide_eq_false hb25)
            try (have hb25q:=ne_of_beq_false hb25)
            refine Sd rfl rfl rfl hb25 rfl (Sd rfl rfl rfl hb25 rfl (Sd rfl rfl rfl hb25 rfl (qP rfl rfl hb25 rfl (qM rfl rfl (Sd rfl rfl rfl rfl rfl (Sd rfl rfl rfl rfl rfl (Sd rfl rfl rfl rfl rfl (qP rfl rfl rfl rfl (qM rfl rfl (Sd rfl rfl rfl rfl rfl (Sd rfl rfl rfl rfl rfl (Sd rfl rfl rfl rfl rfl (qP rfl rfl rfl rfl (qM rfl rfl (Sd rfl rfl rfl rfl rfl (Sd rfl rfl rfl rfl rfl (Sd rfl rfl rfl rfl rfl (Sd rfl rfl rfl rfl rfl (Sd rfl rfl rfl rfl rfl (qP rfl rfl rfl rfl (qA rfl rfl (Nl (Wz ⟨.inl rfl,_,mt,Rc (Rt rfl) (Rn),all_mt,?_⟩)))))))))))))))))))))))
            exact ⟨by (simp_all [vpk,validP,mostP,retOf])<;>omega,rfl⟩
        ·
          try (have hb24p:=of_decide_eq_false hb24)
          try (have hb24q:=ne_of_beq_false hb24)
          refine Sd rfl rfl rfl hb24 rfl (Sd rfl rfl rfl hb24 rfl (Sd rfl rfl rfl hb24 rfl (qP rfl rfl hb24 rfl (qM rfl rfl (Sd rfl rfl rfl rfl rfl (Sd rfl rfl rfl rfl rfl (Sd rfl rfl rfl rfl rfl (qP rfl rfl rfl rfl (qM rfl rfl (Sd rfl rfl rfl rfl rfl (Sd rfl rfl rfl rfl rfl (Sd rfl rfl rfl rfl rfl (qP rfl rfl rfl rfl (qM rfl rfl (Sd rfl rfl rfl rfl rfl (Sd rfl rfl rfl rfl rfl (Sd rfl rfl rfl rfl rfl (qP rfl rfl rfl rfl (qM rfl rfl (Sd rfl rfl rfl rfl rfl (Sd rfl rfl rfl rfl rfl (Sd rfl rfl rfl rfl rfl (Sd rfl rfl rfl rfl rfl (Sd rfl rfl rfl rfl rfl (qP rfl rfl rfl rfl (qA rfl rfl (Nl (Wz ⟨.inl rfl,_,mt,Rc (Rt rfl) (Rn),all_mt,?_⟩))))))))))))))))))))))))))))
          exact ⟨by (simp_all [vpk,validP,mostP,retOf])<;>omega,rfl⟩
      ·
        try (have hb23p:=of_decide_eq_false hb23)
        try (have hb23q:=ne_of_beq_false hb23)
        refine Sd rfl rfl rfl hb23 rfl (Sd rfl rfl rfl hb23 rfl (Sd rfl rfl rfl hb23 rfl (Sd rfl rfl rfl hb23 rfl (Sd rfl rfl rfl hb23 rfl (Sd rfl rfl rfl hb23 rfl (Sd rfl rfl rfl hb23 rfl (qP rfl rfl hb23 rfl (qM rfl rfl (Sd rfl rfl rfl rfl rfl (Sd rfl rfl rfl rfl rfl (Sd rfl rfl rfl rfl rfl (qP rfl rfl rfl rfl (qM rfl rfl (Sd rfl rfl rfl rfl rfl (Sd rfl rfl rfl rfl rfl (Sd rfl rfl rfl rfl rfl (qP rfl rfl rfl rfl (qM rfl rfl (Sd rfl rfl rfl rfl rfl (Sd rfl rfl rfl rfl rfl (Sd rfl rfl rfl rfl rfl (qP rfl rfl rfl rfl (qM rfl rfl (Sd rfl rfl rfl rfl rfl (Sd rfl rfl rfl rfl rfl (Sd rfl rfl rfl rfl rfl (qP rfl rfl rfl rfl (qM rfl rfl (Sd rfl rfl rfl rfl rfl (Sd rfl rfl rfl rfl rfl (Sd rfl rfl rfl rfl rfl (Sd rfl rfl rfl rfl rfl (Sd rfl rfl rfl rfl rfl (qP rfl rfl rfl rfl (qA rfl rfl (Nl (Wz ⟨.inl rfl,_,mt,Rc (Rt rfl) (Rn),all_mt,?_⟩)))))))))))))))))))))))))))))))))))))
        exact ⟨by (simp_all [vpk,validP,mostP,retOf])<;>omega,rfl⟩
    ·
      try (have hb22p:=of_decide_eq_false hb22)
      try (have hb22q:=ne_of_beq_false hb22)
      refine Sd rfl rfl rfl hb22 rfl (Sd rfl rfl rfl hb22 rfl (Sd rfl rfl rfl hb22 rfl (qP rfl rfl hb22 rfl (qM rfl rfl (Sd rfl rfl rfl rfl rfl (Sd rfl rfl rfl rfl rfl (Sd rfl rfl rfl rfl rfl (Sd rfl rfl rfl rfl rfl (Sd rfl rfl rfl rfl rfl (Sd rfl rfl rfl rfl rfl (Sd rfl rfl rfl rfl rfl (qP rfl rfl rfl rfl (qM rfl rfl (Sd rfl rfl rfl rfl rfl (Sd rfl rfl rfl rfl rfl (Sd rfl rfl rfl rfl rfl (qP rfl rfl rfl rfl (qM rfl rfl (Sd rfl rfl rfl rfl rfl (Sd rfl rfl rfl rfl rfl (Sd rfl rfl rfl rfl rfl (qP rfl rfl rfl rfl (qM rfl rfl (Sd rfl rfl rfl rfl rfl (Sd rfl rfl rfl rfl rfl (Sd rfl rfl rfl rfl rfl (qP rfl rfl rfl rfl (qM rfl rfl (Sd rfl rfl rfl rfl rfl (Sd rfl rfl rfl rfl rfl (Sd rfl rfl rfl rfl rfl (qP rfl rfl rfl rfl (qM rfl rfl (Sd rfl rfl rfl rfl rfl (Sd rfl rfl rfl rfl rfl (Sd rfl rfl rfl rfl rfl (Sd rfl rfl rfl rfl rfl (Sd rfl rfl rfl rfl rfl (qP rfl rfl rfl rfl (qA rfl rfl (Nl (Wz ⟨.inl rfl,_,mt,Rc (Rt rfl) (Rn),all_mt,?_⟩))))))))))))))))))))))))))))))))))))))))))
      exact ⟨by (simp_all [vpk,validP,mostP,retOf])<;>omega,rfl⟩
theorem rpvalid_any (x:Pk):AFn Tryz.prog 68 0 [.agg (pkC x)] mt (.base (.bool (vpk x))) mt:=by
  refine AFn.eq Tryz.func68 rfl rfl (Nat.le_of_ble_eq_true rfl) ?_
  have hav:=rvalid_any
  unfold adC at hav
  unfold pkC adC
  refine Wq (qW 0 2 rfl rfl rfl (qC rfl rfl rfl (qA rfl rfl (Nl (Wq (qW 6 7 rfl rfl rfl (qA rfl rfl (Nl (Wq (Wq (qW 11 14 rfl rfl rfl (qF rfl rfl ty74 rfl rfl (qF rfl rfl ty42 rfl rfl (qL rfl rfl rfl rfl ty4 rfl (Nl (W.cond rfl (fun hb29=>?_) (fun hb29=>?_)))))))))))))))))
  ·
    try (have hb29p:=of_decide_eq_true hb29)
    try (have hb29q:=eq_of_beq hb29)
    refine qW 18 19 rfl rfl rfl (qA rfl rfl (Nl (Wq (qW 23 68 rfl rfl rfl (qF rfl rfl ty74 rfl rfl (qG rfl rfl rfl ty42 rfl (Tl rfl) (Od rfl rfl (C0 (fr:=[]) rfl rfl (hav _) fok83 (.cons rfl (.pure rfl) .nil) rfl) (qM rfl rfl (RW.split (t:=10) rfl (fun hb30=>?_) (fun hb30=>?_))))))))))
    ·
      try (have hb30p:=of_decide_eq_true hb30)
      try (have hb30q:=eq_of_beq hb30)
      refine Gd rfl rfl rfl hb30 rfl (Fa rfl rfl ty74 rfl (by decide)) (Gd rfl rfl rfl hb30 rfl (La rfl rfl rfl ty42 rfl (Tl rfl)) (Gd rfl rfl rfl hb30 rfl (C0 (fr:=[]) rfl rfl (hav _) fok83 (.cons rfl (.pure rfl) .nil) rfl) (qT rfl rfl hb30 rfl (qM rfl rfl (RW.split (t:=15) rfl (fun hb31=>?_) (fun hb31=>?_))))))
      ·
        try (have hb31p:=of_decide_eq_true hb31)
        try (have hb31q:=eq_of_beq hb31)
        refine Gd rfl rfl rfl hb31 rfl (Fa rfl rfl ty74 rfl (by decide)) (Gd rfl rfl rfl hb31 rfl (Fa rfl rfl ty42 rfl (by decide)) (Gd rfl rfl rfl hb31 rfl (Ld rfl rfl rfl rfl ty4 rfl) (Gd rfl rfl rfl hb31 rfl (Fa rfl rfl ty74 rfl (by decide)) (Gd rfl rfl rfl hb31 rfl (Fa rfl rfl ty42 rfl (by decide)) (Gd rfl rfl rfl hb31 rfl (Ld rfl rfl rfl rfl ty4 rfl) (Gd rfl rfl rfl hb31 rfl (LO.eql_bool rfl rfl rfl ty4) (qT rfl rfl hb31 rfl (qM rfl rfl (RW.split (t:=24) rfl (fun hb32=>?_) (fun hb32=>?_))))))))))
        ·
          try (have hb32p:=of_decide_eq_true hb32)
          try (have hb32q:=eq_of_beq hb32)
          refine Gd rfl rfl rfl hb32 rfl (Fa rfl rfl ty74 rfl (by decide)) (Gd rfl rfl rfl hb32 rfl (Ld rfl rfl rfl rfl ty3 rfl) (Gd rfl rfl rfl hb32 rfl (Ge0 rfl rfl rfl) (qT rfl rfl hb32 rfl (qM rfl rfl (RW.split (t:=29) rfl (fun hb33=>?_) (fun hb33=>?_))))))
          ·
            try (have hb33p:=of_decide_eq_true hb33)
            try (have hb33q:=eq_of_beq hb33)
            refine Gd rfl rfl rfl hb33 rfl (Fa rfl rfl ty74 rfl (by decide)) (Gd rfl rfl rfl hb33 rfl (Ld rfl rfl rfl rfl ty3 rfl) (Gd rfl rfl rfl hb33 rfl (Le0 rfl rfl rfl) (qT rfl rfl hb33 rfl (qM rfl rfl (RW.split (t:=34) rfl (fun hb34=>?_) (fun hb34=>?_))))))
            ·
              try (have hb34p:=of_decide_eq_true hb34)
              try (have hb34q:=eq_of_beq hb34)
              refine Gd rfl rfl rfl hb34 rfl (Fa rfl rfl ty74 rfl (by decide)) (Gd rfl rfl rfl hb34 rfl (Ld rfl rfl rfl rfl ty3 rfl) (Gd rfl rfl rfl hb34 rfl (Ge0 rfl rfl rfl) (qT rfl rfl hb34 rfl (qM rfl rfl (RW.split (t:=39) rfl (fun hb35=>?_) (fun hb35=>?_))))))
              ·
                try (have hb35p:=of_decide_eq_true hb35)
                try (have hb35q:=eq_of_beq hb35)
                refine Gd rfl rfl rfl hb35 rfl (Fa rfl rfl ty74 rfl (by decide)) (Gd rfl rfl rfl hb35 rfl (Ld rfl rfl rfl rfl ty3 rfl) (Gd rfl rfl rfl hb35 rfl (Le0 rfl rfl rfl) (qT rfl rfl hb35 rfl (qM rfl rfl (RW.split (t:=44) rfl (fun hb36=>?_) (fun hb36=>?_))))))
                ·
                  try (have hb36p:=of_decide_eq_true hb36)
                  try (have hb36q:=eq_of_beq hb36)
                  refine Gd rfl rfl rfl hb36 rfl (Fa rfl rfl ty74 rfl (by decide)) (Gd rfl rfl rfl hb36 rfl (Ld rfl rfl rfl rfl ty24 rfl) (Gd rfl rfl rfl hb36 rfl (Ln rfl rfl rfl ty24) (Gd rfl rfl rfl hb36 rfl (Mv rfl rfl) (Gd rfl rfl rfl hb36 rfl (Le0 rfl rfl rfl) (qT rfl rfl hb36 rfl (qA rfl rfl (Nl (Wz ⟨.inl rfl,_,mt,Rc (Rt rfl) (Rn),all_mt,?_⟩))))))))
                  exact ⟨by (simp_all [vpk,validP,mostP,retOf])<;>omega,rfl⟩
                ·
                  try (have hb36p:=of_decide_eq_false hb36)
                  try (have hb36q:=ne_of_beq_false hb36)
                  refine Sd rfl rfl rfl hb36 rfl (Sd rfl rfl rfl hb36 rfl (Sd rfl rfl rfl hb36 rfl (Sd rfl rfl rfl hb36 rfl (Sd rfl rfl rfl hb36 rfl (qP rfl rfl hb36 rfl (qA rfl rfl (Nl (Wz ⟨.inl rfl,_,mt,Rc (Rt rfl) (Rn),all_mt,?_⟩))))))))
                  exact ⟨by (simp_all [vpk,validP,mostP,retOf])<;>omega,rfl⟩
              ·
                try (have hb35p:=of_decide_eq_false hb35)
                try (have hb35q:=ne_of_beq_false hb35)
                refine Sd rfl rfl rfl hb35 rfl (Sd rfl rfl rfl hb35 rfl (Sd rfl rfl rfl hb35 rfl (qP rfl rfl hb35 rfl (qM rfl rfl (Sd rfl rfl rfl rfl rfl (Sd rfl rfl rfl rfl rfl (Sd rfl rfl rfl rfl rfl (Sd rfl rfl rfl rfl rfl (Sd rfl rfl rfl rfl rfl (qP rfl rfl rfl rfl (qA rfl rfl (Nl (Wz ⟨.inl rfl,_,mt,Rc (Rt rfl) (Rn),all_mt,?_⟩)))))))))))))
                exact ⟨by (simp_all [vpk,validP,mostP,retOf])<;>omega,rfl⟩
            ·
              try (have hb34p:=of_decide_eq_false hb34)
              try (have hb34q:=ne_of_beq_false hb34)
              refine Sd rfl rfl rfl hb34 rfl (Sd rfl rfl rfl hb34 rfl (Sd rfl rfl rfl hb34 rfl (qP rfl rfl hb34 rfl (qM rfl rfl (Sd rfl rfl rfl rfl rfl (Sd rfl rfl rfl rfl rfl (Sd rfl rfl rfl rfl rfl (qP rfl rfl rfl rfl (qM rfl rfl (Sd rfl rfl rfl rfl rfl (Sd rfl rfl rfl rfl rfl (Sd rfl rfl rfl rfl rfl (Sd rfl rfl rfl rfl rfl (Sd rfl rfl rfl rfl rfl (qP rfl rfl rfl rfl (qA rfl rfl (Nl (Wz ⟨.inl rfl,_,mt,Rc (Rt rfl) (Rn),all_mt,?_⟩))))))))))))))))))
              exact ⟨by (simp_all [vpk,validP,mostP,retOf])<;>omega,rfl⟩
          ·
            try (have hb33p:=of_decide_eq_false hb33)
            try (have hb33q:=ne_of_beq_false hb33)
            refine Sd rfl rfl rfl hb33 rfl (Sd rfl rfl rfl hb33 rfl (Sd rfl rfl rfl hb33 rfl (qP rfl rfl hb33 rfl (qM rfl rfl (Sd rfl rfl rfl rfl rfl (Sd rfl rfl rfl rfl rfl (Sd rfl rfl rfl rfl rfl (qP rfl rfl rfl rfl (qM rfl rfl (Sd rfl rfl rfl rfl rfl (Sd rfl rfl rfl rfl rfl (Sd rfl rfl rfl rfl rfl (qP rfl rfl rfl rfl (qM rfl rfl (Sd rfl rfl rfl rfl rfl (Sd rfl rfl rfl rfl rfl (Sd rfl rfl rfl rfl rfl (Sd rfl rfl rfl rfl rfl (Sd rfl rfl rfl rfl rfl (qP rfl rfl rfl rfl (qA rfl rfl (Nl (Wz ⟨.inl rfl,_,mt,Rc (Rt rfl) (Rn),all_mt,?_⟩)))))))))))))))))))))))
            exact ⟨by (simp_all [vpk,validP,mostP,retOf])<;>omega,rfl⟩
        ·
          try (have hb32p:=of_decide_eq_false hb32)
          try (have hb32q:=ne_of_beq_false hb32)
          refine Sd rfl rfl rfl hb32 rfl (Sd rfl rfl rfl hb32 rfl (Sd rfl rfl rfl hb32 rfl (qP rfl rfl hb32 rfl (qM rfl rfl (Sd rfl rfl rfl rfl rfl (Sd rfl rfl rfl rfl rfl (Sd rfl rfl rfl rfl rfl (qP rfl rfl rfl rfl (qM rfl rfl (Sd rfl rfl rfl rfl rfl (Sd rfl rfl rfl rfl rfl (Sd rfl rfl rfl rfl rfl (qP rfl rfl rfl rfl (qM rfl rfl (Sd rfl rfl rfl rfl rfl (Sd rfl rfl rfl rfl rfl (Sd rfl rfl rfl rfl rfl (qP rfl rfl rfl rfl (qM rfl rfl (Sd rfl rfl rfl rfl rfl (Sd rfl rfl rfl rfl rfl (Sd rfl rfl rfl rfl rfl (Sd rfl rfl rfl rfl rfl (Sd rfl rfl rfl rfl rfl (qP rfl rfl rfl rfl (qA rfl rfl (Nl (Wz ⟨.inl rfl,_,mt,Rc (Rt rfl) (Rn),all_mt,?_⟩))))))))))))))))))))))))))))
          exact ⟨by (simp_all [vpk,validP,mostP,retOf])<;>omega,rfl⟩
      ·
        try (have hb31p:=of_decide_eq_false hb31)
        try (have hb31q:=ne_of_beq_false hb31)
        refine Sd rfl rfl rfl hb31 rfl (Sd rfl rfl rfl hb31 rfl (Sd rfl rfl rfl hb31 rfl (Sd rfl rfl rfl hb31 rfl (Sd rfl rfl rfl hb31 rfl (Sd rfl rfl rfl hb31 rfl (Sd rfl rfl rfl hb31 rfl (qP rfl rfl hb31 rfl (qM rfl rfl (Sd rfl rfl rfl rfl rfl (Sd rfl rfl rfl rfl rfl (Sd rfl rfl rfl rfl rfl (qP rfl rfl rfl rfl (qM rfl rfl (Sd rfl rfl rfl rfl rfl (Sd rfl rfl rfl rfl rfl (Sd rfl rfl rfl rfl rfl (qP rfl rfl rfl rfl (qM rfl rfl (Sd rfl rfl rfl rfl rfl (Sd rfl rfl rfl rfl rfl (Sd rfl rfl rfl rfl rfl (qP rfl rfl rfl rfl (qM rfl rfl (Sd rfl rfl rfl rfl rfl (Sd rfl rfl rfl rfl rfl (Sd rfl rfl rfl rfl rfl (qP rfl rfl rfl rfl (qM rfl rfl (Sd rfl rfl rfl rfl rfl (Sd rfl rfl rfl rfl rfl (Sd rfl rfl rfl rfl rfl (Sd rfl rfl rfl rfl rfl (Sd rfl rfl rfl rfl rfl (qP rfl rfl rfl rfl (qA rfl rfl (Nl (Wz ⟨.inl rfl,_,mt,Rc (Rt rfl) (Rn),all_mt,?_⟩)))))))))))))))))))))))))))))))))))))
        exact ⟨by (simp_all [vpk,validP,mostP,retOf])<;>omega,rfl⟩
    ·
      try (have hb30p:=of_decide_eq_false hb30)
      try (have hb30q:=ne_of_beq_false hb30)
      refine Sd rfl rfl rfl hb30 rfl (Sd rfl rfl rfl hb30 rfl (Sd rfl rfl rfl hb30 rfl (qP rfl rfl hb30 rfl (qM rfl rfl (Sd rfl rfl rfl rfl rfl (Sd rfl rfl rfl rfl rfl (Sd rfl rfl rfl rfl rfl (Sd rfl rfl rfl rfl rfl (Sd rfl rfl rfl rfl rfl (Sd rfl rfl rfl rfl rfl (Sd rfl rfl rfl rfl rfl (qP rfl rfl rfl rfl (qM rfl rfl (Sd rfl rfl rfl rfl rfl (Sd rfl rfl rfl rfl rfl (Sd rfl rfl rfl rfl rfl (qP rfl rfl rfl rfl (qM rfl rfl (Sd rfl rfl rfl rfl rfl (Sd rfl rfl rfl rfl rfl (Sd rfl rfl rfl rfl rfl (qP rfl rfl rfl rfl (qM rfl rfl (Sd rfl rfl rfl rfl rfl (Sd rfl rfl rfl rfl rfl (Sd rfl rfl rfl rfl rfl (qP rfl rfl rfl rfl (qM rfl rfl (Sd rfl rfl rfl rfl rfl (Sd rfl rfl rfl rfl rfl (Sd rfl rfl rfl rfl rfl (qP rfl rfl rfl rfl (qM rfl rfl (Sd rfl rfl rfl rfl rfl (Sd rfl rfl rfl rfl rfl (Sd rfl rfl rfl rfl rfl (Sd rfl rfl rfl rfl rfl (Sd rfl rfl rfl rfl rfl (qP rfl rfl rfl rfl (qA rfl rfl (Nl (Wz ⟨.inl rfl,_,mt,Rc (Rt rfl) (Rn),all_mt,?_⟩))))))))))))))))))))))))))))))))))))))))))
      exact ⟨by (simp_all [vpk,validP,mostP,retOf])<;>omega,rfl⟩
  ·
    try (have hb29p:=of_decide_eq_false hb29)
    try (have hb29q:=ne_of_beq_false hb29)
    refine Wk (Wq (qW 23 68 rfl rfl rfl (qF rfl rfl ty74 rfl rfl (qG rfl rfl rfl ty42 rfl (Tl rfl) (Od rfl rfl (C0 (fr:=[]) rfl rfl (hav _) fok83 (.cons rfl (.pure rfl) .nil) rfl) (qM rfl rfl (RW.split (t:=10) rfl (fun hb37=>?_) (fun hb37=>?_))))))))
    ·
      try (have hb37p:=of_decide_eq_true hb37)
      try (have hb37q:=eq_of_beq hb37)
      refine Gd rfl rfl rfl hb37 rfl (Fa rfl rfl ty74 rfl (by decide)) (Gd rfl rfl rfl hb37 rfl (La rfl rfl rfl ty42 rfl (Tl rfl)) (Gd rfl rfl rfl hb37 rfl (C0 (fr:=[]) rfl rfl (hav _) fok83 (.cons rfl (.pure rfl) .nil) rfl) (qT rfl rfl hb37 rfl (qM rfl rfl (RW.split (t:=15) rfl (fun hb38=>?_) (fun hb38=>?_))))))
      ·
        try (have hb38p:=of_decide_eq_true hb38)
        try (have hb38q:=eq_of_beq hb38)
        refine Gd rfl rfl rfl hb38 rfl (Fa rfl rfl ty74 rfl (by decide)) (Gd rfl rfl rfl hb38 rfl (Fa rfl rfl ty42 rfl (by decide)) (Gd rfl rfl rfl hb38 rfl (Ld rfl rfl rfl rfl ty4 rfl) (Gd rfl rfl rfl hb38 rfl (Fa rfl rfl ty74 rfl (by decide)) (Gd rfl rfl rfl hb38 rfl (Fa rfl rfl ty42 rfl (by decide)) (Gd rfl rfl rfl hb38 rfl (Ld rfl rfl rfl rfl ty4 rfl) (Gd rfl rfl rfl hb38 rfl (LO.eql_bool rfl rfl rfl ty4) (qT rfl rfl hb38 rfl (qM rfl rfl (RW.split (t:=24) rfl (fun hb39=>?_) (fun hb39=>?_))))))))))
        ·
          try (have hb39p:=of_decide_eq_true hb39)
          try (have hb39q:=eq_of_beq hb39)
          refine Gd rfl rfl rfl hb39 rfl (Fa rfl rfl ty74 rfl (by decide)) (Gd rfl rfl rfl hb39 rfl (Ld rfl rfl rfl rfl ty3 rfl) (Gd rfl rfl rfl hb39 rfl (Ge0 rfl rfl rfl) (qT rfl rfl hb39 rfl (qM rfl rfl (RW.split (t:=29) rfl (fun hb40=>?_) (fun hb40=>?_))))))
          ·
            try (have hb40p:=of_decide_eq_true hb40)
            try (have hb40q:=eq_of_beq hb40)
            refine Gd rfl rfl rfl hb40 rfl (Fa rfl rfl ty74 rfl (by decide)) (Gd rfl rfl rfl hb40 rfl (Ld rfl rfl rfl rfl ty3 rfl) (Gd rfl rfl rfl hb40 rfl (Le0 rfl rfl rfl) (qT rfl rfl hb40 rfl (qM rfl rfl (RW.split (t:=34) rfl (fun hb41=>?_) (fun hb41=>?_))))))
            ·
              try (have hb41p:=of_decide_eq_true hb41)
              try (have hb41q:=eq_of_beq hb41)
              refine Gd rfl rfl rfl hb41 rfl (Fa rfl rfl ty74 rfl (by decide)) (Gd rfl rfl rfl hb41 rfl (Ld rfl rfl rfl rfl ty3 rfl) (Gd rfl rfl rfl hb41 rfl (Ge0 rfl rfl rfl) (qT rfl rfl hb41 rfl (qM rfl rfl (RW.split (t:=39) rfl (fun hb42=>?_) (fun hb42=>?_))))))
              ·
                try (have hb42p:=of_decide_eq_true hb42)
                try (have hb42q:=eq_of_beq hb42)
                refine Gd rfl rfl rfl hb42 rfl (Fa rfl rfl ty74 rfl (by decide)) (Gd rfl rfl rfl hb42 rfl (Ld rfl rfl rfl rfl ty3 rfl) (Gd rfl rfl rfl hb42 rfl (Le0 rfl rfl rfl) (qT rfl rfl hb42 rfl (qM rfl rfl (RW.split (t:=44) rfl (fun hb43=>?_) (fun hb43=>?_))))))
                ·
                  try (have hb43p:=of_decide_eq_true hb43)
                  try (have hb43q:=eq_of_beq hb43)
                  refine Gd rfl rfl rfl hb43 rfl (Fa rfl rfl ty74 rfl (by decide)) (Gd rfl rfl rfl hb43 rfl (Ld rfl rfl rfl rfl ty24 rfl) (Gd rfl rfl rfl hb43 rfl (Ln rfl rfl rfl ty24) (Gd rfl rfl rfl hb43 rfl (Mv rfl rfl) (Gd rfl rfl rfl hb43 rfl (Le0 rfl rfl rfl) (qT rfl rfl hb43 rfl (qA rfl rfl (Nl (Wz ⟨.inl rfl,_,mt,Rc (Rt rfl) (Rn),all_mt,?_⟩))))))))
                  exact ⟨by (simp_all [vpk,validP,mostP,retOf])<;>omega,rfl⟩
                ·
                  try (have hb43p:=of_decide_eq_false hb43)
                  try (have hb43q:=ne_of_beq_false hb43)
                  refine Sd rfl rfl rfl hb43 rfl (Sd rfl rfl rfl hb43 rfl (Sd rfl rfl rfl hb43 rfl (Sd rfl rfl rfl hb43 rfl (Sd rfl rfl rfl hb43 rfl (qP rfl rfl hb43 rfl (qA rfl rfl (Nl (Wz ⟨.inl rfl,_,mt,Rc (Rt rfl) (Rn),all_mt,?_⟩))))))))
                  exact ⟨by (simp_all [vpk,validP,mostP,retOf])<;>omega,rfl⟩
              ·
                try (have hb42p:=of_decide_eq_false hb42)
                try (have hb42q:=ne_of_beq_false hb42)
                refine Sd rfl rfl rfl hb42 rfl (Sd rfl rfl rfl hb42 rfl (Sd rfl rfl rfl hb42 rfl (qP rfl rfl hb42 rfl (qM rfl rfl (Sd rfl rfl rfl rfl rfl (Sd rfl rfl rfl rfl rfl (Sd rfl rfl rfl rfl rfl (Sd rfl rfl rfl rfl rfl (Sd rfl rfl rfl rfl rfl (qP rfl rfl rfl rfl (qA rfl rfl (Nl (Wz ⟨.inl rfl,_,mt,Rc (Rt rfl) (Rn),all_mt,?_⟩)))))))))))))
                exact ⟨by (simp_all [vpk,validP,mostP,retOf])<;>omega,rfl⟩
            ·
              try (have hb41p:=of_decide_eq_false hb41)
              try (have hb41q:=ne_of_beq_false hb41)
              refine Sd rfl rfl rfl hb41 rfl (Sd rfl rfl rfl hb41 rfl (Sd rfl rfl rfl hb41 rfl (qP rfl rfl hb41 rfl (qM rfl rfl (Sd rfl rfl rfl rfl rfl (Sd rfl rfl rfl rfl rfl (Sd rfl rfl rfl rfl rfl (qP rfl rfl rfl rfl (qM rfl rfl (Sd rfl rfl rfl rfl rfl (Sd rfl rfl rfl rfl rfl (Sd rfl rfl rfl rfl rfl (Sd rfl rfl rfl rfl rfl (Sd rfl rfl rfl rfl rfl (qP rfl rfl rfl rfl (qA rfl rfl (Nl (Wz ⟨.inl rfl,_,mt,Rc (Rt rfl) (Rn),all_mt,?_⟩))))))))))))))))))
              exact ⟨by (simp_all [vpk,validP,mostP,retOf])<;>omega,rfl⟩
          ·
            try (have hb40p:=of_decide_eq_false hb40)
            try (have hb40q:=ne_of_beq_false hb40)
            refine Sd rfl rfl rfl hb40 rfl (Sd rfl rfl rfl hb40 rfl (Sd rfl rfl rfl hb40 rfl (qP rfl rfl hb40 rfl (qM rfl rfl (Sd rfl rfl rfl rfl rfl (Sd rfl rfl rfl rfl rfl (Sd rfl rfl rfl rfl rfl (qP rfl rfl rfl rfl (qM rfl rfl (Sd rfl rfl rfl rfl rfl (Sd rfl rfl rfl rfl rfl (Sd rfl rfl rfl rfl rfl (qP rfl rfl rfl rfl (qM rfl rfl (Sd rfl rfl rfl rfl rfl (Sd rfl rfl rfl rfl rfl (Sd rfl rfl rfl rfl rfl (Sd rfl rfl rfl rfl rfl (Sd rfl rfl rfl rfl rfl (qP rfl rfl rfl rfl (qA rfl rfl (Nl (Wz ⟨.inl rfl,_,mt,Rc (Rt rfl) (Rn),all_mt,?_⟩)))))))))))))))))))))))
            exact ⟨by (simp_all [vpk,validP,mostP,retOf])<;>omega,rfl⟩
        ·
          try (have hb39p:=of_decide_eq_false hb39)
          try (have hb39q:=ne_of_beq_false hb39)
          refine Sd rfl rfl rfl hb39 rfl (Sd rfl rfl rfl hb39 rfl (Sd rfl rfl rfl hb39 rfl (qP rfl rfl hb39 rfl (qM rfl rfl (Sd rfl rfl rfl rfl rfl (Sd rfl rfl rfl rfl rfl (Sd rfl rfl rfl rfl rfl (qP rfl rfl rfl rfl (qM rfl rfl (Sd rfl rfl rfl rfl rfl (Sd rfl rfl rfl rfl rfl (Sd rfl rfl rfl rfl rfl (qP rfl rfl rfl rfl (qM rfl rfl (Sd rfl rfl rfl rfl rfl (Sd rfl rfl rfl rfl rfl (Sd rfl rfl rfl rfl rfl (qP rfl rfl rfl rfl (qM rfl rfl (Sd rfl rfl rfl rfl rfl (Sd rfl rfl rfl rfl rfl (Sd rfl rfl rfl rfl rfl (Sd rfl rfl rfl rfl rfl (Sd rfl rfl rfl rfl rfl (qP rfl rfl rfl rfl (qA rfl rfl (Nl (Wz ⟨.inl rfl,_,mt,Rc (Rt rfl) (Rn),all_mt,?_⟩))))))))))))))))))))))))))))
          exact ⟨by (simp_all [vpk,validP,mostP,retOf])<;>omega,rfl⟩
      ·
        try (have hb38p:=of_decide_eq_false hb38)
        try (have hb38q:=ne_of_beq_false hb38)
        refine Sd rfl rfl rfl hb38 rfl (Sd rfl rfl rfl hb38 rfl (Sd rfl rfl rfl hb38 rfl (Sd rfl rfl rfl hb38 rfl (Sd rfl rfl rfl hb38 rfl (Sd rfl rfl rfl hb38 rfl (Sd rfl rfl rfl hb38 rfl (qP rfl rfl hb38 rfl (qM rfl rfl (Sd rfl rfl rfl rfl rfl (Sd rfl rfl rfl rfl rfl (Sd rfl rfl rfl rfl rfl (qP rfl rfl rfl rfl (qM rfl rfl (Sd rfl rfl rfl rfl rfl (Sd rfl rfl rfl rfl rfl (Sd rfl rfl rfl rfl rfl (qP rfl rfl rfl rfl (qM rfl rfl (Sd rfl rfl rfl rfl rfl (Sd rfl rfl rfl rfl rfl (Sd rfl rfl rfl rfl rfl (qP rfl rfl rfl rfl (qM rfl rfl (Sd rfl rfl rfl rfl rfl (Sd rfl rfl rfl rfl rfl (Sd rfl rfl rfl rfl rfl (qP rfl rfl rfl rfl (qM rfl rfl (Sd rfl rfl rfl rfl rfl (Sd rfl rfl rfl rfl rfl (Sd rfl rfl rfl rfl rfl (Sd rfl rfl rfl rfl rfl (Sd rfl rfl rfl rfl rfl (qP rfl rfl rfl rfl (qA rfl rfl (Nl (Wz ⟨.inl rfl,_,mt,Rc (Rt rfl) (Rn),all_mt,?_⟩)))))))))))))))))))))))))))))))))))))
        exact ⟨by (simp_all [vpk,validP,mostP,retOf])<;>omega,rfl⟩
    ·
      try (have hb37p:=of_decide_eq_false hb37)
      try (have hb37q:=ne_of_beq_false hb37)
      refine Sd rfl rfl rfl hb37 rfl (Sd rfl rfl rfl hb37 rfl (Sd rfl rfl rfl hb37 rfl (qP rfl rfl hb37 rfl (qM rfl rfl (Sd rfl rfl rfl rfl rfl (Sd rfl rfl rfl rfl rfl (Sd rfl rfl rfl rfl rfl (Sd rfl rfl rfl rfl rfl (Sd rfl rfl rfl rfl rfl (Sd rfl rfl rfl rfl rfl (Sd rfl rfl rfl rfl rfl (qP rfl rfl rfl rfl (qM rfl rfl (Sd rfl rfl rfl rfl rfl (Sd rfl rfl rfl rfl rfl (Sd rfl rfl rfl rfl rfl (qP rfl rfl rfl rfl (qM rfl rfl (Sd rfl rfl rfl rfl rfl (Sd rfl rfl rfl rfl rfl (Sd rfl rfl rfl rfl rfl (qP rfl rfl rfl rfl (qM rfl rfl (Sd rfl rfl rfl rfl rfl (Sd rfl rfl rfl rfl rfl (Sd rfl rfl rfl rfl rfl (qP rfl rfl rfl rfl (qM rfl rfl (Sd rfl rfl rfl rfl rfl (Sd rfl rfl rfl rfl rfl (Sd rfl rfl rfl rfl rfl (qP rfl rfl rfl rfl (qM rfl rfl (Sd rfl rfl rfl rfl rfl (Sd rfl rfl rfl rfl rfl (Sd rfl rfl rfl rfl rfl (Sd rfl rfl rfl rfl rfl (Sd rfl rfl rfl rfl rfl (qP rfl rfl rfl rfl (qA rfl rfl (Nl (Wz ⟨.inl rfl,_,mt,Rc (Rt rfl) (Rn),all_mt,?_⟩))))))))))))))))))))))))))))))))))))))))))
      exact ⟨by (simp_all [vpk,validP,mostP,retOf])<;>omega,rfl⟩
end Go.Proofs.YtcidmiacfjdepaaGreatDoor
