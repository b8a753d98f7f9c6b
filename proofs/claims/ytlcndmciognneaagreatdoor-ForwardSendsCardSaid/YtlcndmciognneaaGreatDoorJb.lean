/-
  Prefixes: the document's making of one, whether it holds an address, its last address. Small functions of databases: whether an address is none, all members in a row.
-/
import Derived.Test.YtlcndmciognneaaGreatDoorQd
import Derived.Test.YtlcndmciognneaaGreatDoorQf
import Derived.Test.YtlcndmciognneaaGreatDoorMab
namespace Go.Proofs.YtlcndmciognneaaGreatDoor
open Go.RowKit
def widthA (a:Ad):Int:=if a.v6 then 128 else 32
theorem width_any (a:Ad):AFn Tryz.prog 126 0 [.agg (adC a)] mt (.base (.int .i64 (widthA a))) mt:=by
 refine AFn.eq Tryz.func126 rfl rfl (Nat.le_of_ble_eq_true rfl) ?_
 unfold adC
 refine Wq<|qW 0 2 rfl<|qC rfl<|qA rfl<|Nl<|Wq<|Wq<|qW 6 8 rfl<|qF rfl ty54 rfl<|qL rfl ty4 rfl<|Nl<|W.cond rfl (fun hb1=>?_) (fun hb1=>?_)
 ·
  try (have hb1p:=of_decide_eq_true hb1)
  try (have hb1q:=eq_of_beq hb1)
  refine Wq<|qW 12 13 rfl<|qA rfl<|Nl<|Wz ⟨.inl rfl,_,mt,Rc (Rt rfl) (Rv),aM,?_⟩
  exact ⟨by (simp_all [widthA,retOf])<;>omega,rfl⟩
 ·
  try (have hb1p:=of_decide_eq_false hb1)
  try (have hb1q:=ne_of_beq_false hb1)
  refine Wu<|Wq<|qW 17 18 rfl<|qA rfl<|Nl<|Wz ⟨.inl rfl,_,mt,Rc (Rt rfl) (Rv),aM,?_⟩
  exact ⟨by (simp_all [widthA,retOf])<;>omega,rfl⟩
def bitAt (i:Nat):Int:=(128:Int).fdiv (2 ^ (min ((i:Int) % 8).toNat IntKind.u8.bits))
def chgL (op:BinOp) (l:List Int) (i:Nat):List Int:=l.set (i / 8) (bitV op .u8 (gB l (i / 8)) (bitAt i))
def chgs (op:BinOp) (l:List Int) (n k:Nat):List Int:=(List.range' n k).foldl (chgL op) l
theorem chgs_snoc (op:BinOp) (l:List Int) (n k:Nat):chgs op l n (k + 1)=chgL op (chgs op l n k) (n + k):=by
 unfold chgs
 rw [List.range'_concat,List.foldl_append]
 simp
theorem chgs_len (op:BinOp) (l:List Int) (n k:Nat):(chgs op l n k).length=l.length:=by
 induction k with
 | zero=>rfl
 | succ k ih=>rw [chgs_snoc,chgL,List.length_set,ih]
theorem bitV_u8 (op:BinOp) (x y:Int):0≤bitV op .u8 x y∧bitV op .u8 x y≤255:=by
 have h:∀ z:Int,0≤IntKind.u8.wrap z∧IntKind.u8.wrap z≤255:=fun z=>by rw [IntKind.wrap_u8'];omega
 unfold bitV
 split<;>exact h _
theorem chgs_isB (op:BinOp) (l:List Int) (n k:Nat) (h:IsB l):IsB (chgs op l n k):=by
 induction k with
 | zero=>exact h
 | succ k ih =>
  rw [chgs_snoc]
  intro x hx
  rcases List.mem_or_eq_of_mem_set hx with h1|h1
  ·exact ih x h1
  ·rw [h1];exact bitV_u8 _ _ _
def mkL (op:BinOp) (a:Ad) (n:Nat):List Int:=chgs op (addrL a) n (8 * (addrL a).length - n)
def mkAd (op:BinOp) (a:Ad) (n:Nat):Ad:=⟨a.v6,(fb (mkL op a n)).1,(fb (mkL op a n)).2⟩
def mkP (a:Ad) (n:Nat):Pre:=⟨mkAd .andNot a n,n⟩
set_option maxHeartbeats 1000000 in
theorem make_any (a:Ad) (n:Nat) (hv:validA a.v6 a.hi a.lo=true) (h1:U64 a.hi) (h2:U64 a.lo) (hn:(n:Int)≤widthA a):AFn Tryz.prog 83 0 [.agg (adC a),.base (.int .i64 (n:Int))] mt (.tup [.agg (preC (mkP a n)),.base (.int .i64 0)]) mt:=by
 refine AFn.eq Tryz.func83 rfl rfl (Nat.le_of_ble_eq_true rfl) ?_
 have hva:=rvalid_any a
 rw [hv] at hva
 have hwa:=width_any a
 have hba:=bytesX_any a hv h1 h2
 have hln:=addrL_len a
 have hv6:(((addrL a).length:Int) == 16)=a.v6:=by rw [hln];cases a.v6<;>rfl
 have hlv:(addrL a).length=4∧a.v6=false∨(addrL a).length=16∧a.v6=true:=by
  rw [hln];cases a.v6<;>simp
 have hw:widthA a=8 * ((addrL a).length:Int):=by
  unfold widthA
  rcases hlv with ⟨e1,e2⟩|⟨e1,e2⟩<;>rw [e1,e2]<;>rfl
 have g0:decide ((n:Int) < 0)=false:=decide_eq_false (by omega)
 have g1:decide ((n:Int) > widthA a)=false:=decide_eq_false (by omega)
 have hB:=addrL_isB a
 obtain ⟨b,hb⟩:∃ b,addrL a=b:=⟨_,rfl⟩
 have hmk:mkL .andNot a n=chgs .andNot b n (8 * b.length - n):=by unfold mkL;rw [hb]
 rw [hb] at hba hln hlv hw hB hv6
 refine Wq<|qW 0 3 rfl<|qC rfl<|qB rfl ty56<|qA rfl<|Nl<|Wq<|Wb<|Wq<|qW 7 11 rfl<|qG rfl ty54 rfl (Tl rfl)<|qY rfl (hva) fok125 rfl<|qO rfl<|qA rfl<|Nl<|Wo rfl rfl<|Wq<|qW 22 31 rfl<|qM rfl<|qK rfl<|qM rfl<|gM rfl rfl<|gG rfl rfl ty54 rfl (Tl rfl)<|gY rfl rfl (hwa) fok126 rfl<|gGt rfl rfl<|qP rfl rfl rfl<|qA rfl<|Nl<|Wo rfl ‹_›<|Wu<|Wq<|qW 42 45 rfl<|qG rfl ty54 rfl (Tl rfl)<|Od rfl rfl (LO.callO (fr:=[]) rfl rfl (hba) fok85 (.cons rfl (.pure rfl) .nil) (bytesC_pure _) (by decide))<|qA rfl<|Nl<|Wq<|Wq<|qW 49 51 rfl<|qM rfl<|qA rfl<|Nl ?_
 rw [show b=chgs .andNot b n 0 from rfl]
 rw [show (n:Int)=((n + 0:Nat):Int) from rfl]
 have hl0:=chgs_len .andNot b n 0
 rw [hl0]
 refine Wb<|W.rename [(0,0),(1,43),(2,1)] 3 (T':=up (up (up (up (up mt 1 (some (.base (.int .i64 (n:Int))))) 2 (some (.own 0 0))) 4 (some (.own 2 0))) 6 (some (.osl 1 0 b.length 1))) 7 (some (.base (.int .i64 ((n + 0:Nat):Int))))) (H':=up (up (up mt 0 (some (adC a))) 1 (some (bytesC (chgs .andNot b n 0)))) 2 (some (preC ⟨⟨false,0,0⟩,0⟩))) (by decide) ?_ ?_ ?_
 ·exact aU (lR rfl) (aU (lI rfl) (aU (lI rfl) (aU (lI rfl) (aU (lR rfl) aM))))
 ·exact aU (kR rfl) (aU (kP rfl (bytesC_pure _)) (aU (kR rfl) aM))
 refine W.loop_ind (α:=Nat) (fun x=>8 * b.length - n - x) 3 (fun x=>up (up (up (up (up mt 1 (some (.base (.int .i64 (n:Int))))) 2 (some (.own 0 0))) 4 (some (.own 2 0))) 6 (some (.osl 1 0 b.length 1))) 7 (some (.base (.int .i64 ((n + x:Nat):Int))))) (fun x=>up (up (up mt 0 (some (adC a))) 1 (some (bytesC (chgs .andNot b n x)))) 2 (some (preC ⟨⟨false,0,0⟩,0⟩))) (fun x=>n + x≤8 * b.length) 0 (show n + 0≤8 * b.length from by omega) ?_
 rintro k hIA ihA
 try (dsimp only at hIA)
 try dsimp only
 have hlk:=chgs_len .andNot b n k
 by_cases hc:n + k < 8 * b.length
 ·have g2:decide (((n + k:Nat):Int) < 8 * (b.length:Int))=true:=decide_eq_true (by omega)
  refine Wq<|Wq<|qW 55 60 rfl<|qM rfl<|qM rfl<|Od rfl rfl (LO.len rfl rfl ty24)<|Od rfl rfl (LO.mul_in rfl rfl rfl (iW _ (by omega)))<|qK rfl<|Nl<|Wt rfl ‹_›<|Wu<|Wq<|Wb ?_
  have hq:((n + k:Nat):Int) / 8=(((n + k) / 8:Nat):Int):=by omega
  have hj:(n + k) / 8 < b.length:=by omega
  refine qW 64 76 rfl<|qM rfl<|qM rfl<|Od rfl rfl (LO.quo_in rfl rfl rfl (by omega) (by omega) (iW _ (by omega)))<|Od rfl rfl (Ia rfl rfl rfl hq ty24 ty5 hj)<|Od rfl rfl (Ld rfl rfl rfl (by_at0 (by rw [hlk];exact hj)) ty5 rfl)<|qM rfl<|Od rfl rfl (LO.rem_in rfl rfl rfl (by omega) (by omega))<|Od rfl rfl (Ci rfl rfl ty3 ty129 (IntWalk.u64_in _ (by omega)))<|Od rfl rfl (LO.shr rfl rfl rfl (by omega))<|Od rfl rfl (LO.andNot rfl rfl rfl)<|Od rfl rfl (Ia rfl rfl rfl hq ty24 ty5 hj)<|qS rfl ty5 (by_sp (by rw [hlk];exact hj)) rfl<|Nl ?_
  rw [show (chgs .andNot b n k).set ((n + k) / 8) (bitV .andNot .u8 (gB (chgs .andNot b n k) ((n + k) / 8)) ((128:Int).fdiv (2 ^ (min (((n + k:Nat):Int) % 8).toNat IntKind.u8.bits))))=chgs .andNot b n (k + 1) from (chgs_snoc _ _ _ _).symm]
  refine qW 80 83 rfl<|qM rfl<|qZ rfl (iW _ (by omega))<|qA rfl<|Nl ?_
  rw [show ((n + k:Nat):Int) + 1=((n + (k + 1):Nat):Int) from by omega]
  refine WL.rename [(0,0),(1,1),(2,2)] 3 (by decide) ?_ ?_ (ihA (k + 1) (show 8 * b.length - n - (k + 1) < 8 * b.length - n - k from by omega) (show n + (k + 1)≤8 * b.length from by omega))
  ·exact aU (lR rfl) (aU (lI rfl) (aU (lI rfl) (aU (lI rfl) (aU (lR rfl) aM))))
  ·exact aU (kR rfl) (aU (kP rfl (bytesC_pure _)) (aU (kR rfl) aM))
 ·have g2:decide (((n + k:Nat):Int) < 8 * (b.length:Int))=false:=decide_eq_false (by omega)
  refine Wq<|Wq<|qW 55 60 rfl<|qM rfl<|qM rfl<|Od rfl rfl (LO.len rfl rfl ty24)<|Od rfl rfl (LO.mul_in rfl rfl rfl (iW _ (by omega)))<|qK rfl<|Nl<|Wo rfl ‹_›<|Wx ?_
  clear ihA
  obtain rfl:k=8 * b.length - n:=by omega
  rw [show n + (8 * b.length - n)=8 * b.length from by omega]
  have hlk':=hlk
  have hfr:=fromX_any (chgs .andNot b n (8 * b.length - n)) (chgs_isB _ _ _ _ hB) (by rw [hlk];omega)
  rw [hlk] at hfr
  refine Wq<|qW 87 95 rfl<|qM rfl<|Od rfl rfl (C0 (fr:=[1]) rfl rfl (hfr) fok74 (.cons rfl (.one (.osl (by decide) rfl (bytes_tk hlk) (bytesC_pure _))) .nil) rfl)<|qM rfl<|qX rfl<|qX rfl<|qB rfl ty54<|qS rfl ty54 (Sl rfl) rfl<|qA rfl<|Nl<|Wq<|qW 99 104 rfl<|qG rfl ty54 rfl (Tl rfl)<|qM rfl<|Od rfl rfl (Bs rfl ty56 (.cons rfl rfl rfl rfl (Sl rfl) (.cons rfl rfl rfl rfl (Sl rfl) .nil)))<|qS rfl ty56 (Sl rfl) rfl<|qA rfl<|Nl<|Wz ⟨.inl rfl,_,mt,(Rc (Ra0 rfl rfl ty56 rfl (Tl rfl)) (Rc (Rt rfl) Rv)),aM,?_⟩
  exact ⟨by rw [← hmk,hv6];rfl,rfl⟩
def eqPre (a b:Pre):Bool:=eqA a.ad b.ad && a.len == b.len
theorem eqPre_in (d:Nat) (a b:Pre) (w:World):(Op.equalIn (d + 3) 56 (.agg #[.bool a.ad.v6,.int .u64 a.ad.hi,.int .u64 a.ad.lo,.int .i64 a.len]) (.agg #[.bool b.ad.v6,.int .u64 b.ad.hi,.int .u64 b.ad.lo,.int .i64 b.len])).run Tryz.prog w=.ok (eqPre a b) w:=by
 rw [run_equalIn_struct w (d + 2) 56 _ _ (by kernel_rfl) (by kernel_rfl)]
 have hu:=Tryz.underlying56
 have hua:=Tryz.underlying54
 have hi:=Tryz.underlying3
 have sa:∀ w:World,(sizeOf 54).run Tryz.prog w=.ok 3 w:=fun w=>(ty54).sizeOf w
 have ea:=fun w=>eqAd_in d a.ad b.ad w
 simp [Program.fieldsOf,hu,Op.eqFields,part,isAgg,run_underlying hua,run_underlying hi,sa,run_equalIn_int _ _ _ _ _ _ _ hi,ea]
 unfold eqPre
 by_cases h:a.len=b.len<;>cases eqA a.ad b.ad<;>simp [h]
theorem LO.eql_pre {o:Oper} {E:Operand→Option AV} {H:Hp} {f:Nat} {ty:TypeId} {x y:Operand} (a b:Pre) (ho:o.op=.binOp .eql 56 x y ty) (hx:E x=some (.agg (preC a))) (hy:E y=some (.agg (preC b))):LO Tryz.prog o E H f [] [] (.base (.bool (eqPre a b))) H :=
 LO.eq_bases false [.bool a.ad.v6,.int .u64 a.ad.hi,.int .u64 a.ad.lo,.int .i64 a.len] [.bool b.ad.v6,.int .u64 b.ad.hi,.int .u64 b.ad.lo,.int .i64 b.len] ho hx hy rfl rfl (guard_run x y false (by kernel_rfl)) (eqPre_in 9997 a b)
theorem pvalidX_any (p:Pre) (n:Nat) (hp:p.len=(n:Int)) (hv:validA p.ad.v6 p.ad.hi p.ad.lo=true) (h1:U64 p.ad.hi) (h2:U64 p.ad.lo) (hn:(n:Int)≤widthA p.ad):AFn Tryz.prog 169 0 [.agg (preC p)] mt (.base (.bool (eqPre p (mkP p.ad n)))) mt:=by
 refine AFn.eq Tryz.func169 rfl rfl (Nat.le_of_ble_eq_true rfl) ?_
 have hm:=make_any p.ad n hv h1 h2 hn
 obtain ⟨q,hq⟩:∃ q,mkP p.ad n=q:=⟨_,rfl⟩
 rw [hq] at hm ⊢
 obtain ⟨a,l⟩:=p
 dsimp only at hp hm
 subst hp
 refine Wq<|qW 0 2 rfl<|qC rfl<|qA rfl<|Nl<|Wq<|qW 6 17 rfl<|qF rfl ty56 rfl<|qG rfl ty54 rfl (Tl rfl)<|qF rfl ty56 rfl<|qL rfl ty3 rfl<|qY rfl (hm) fok83 rfl<|qM rfl<|qX rfl<|qX rfl<|qB rfl ty56<|qS rfl ty56 (Sl rfl) rfl<|qA rfl<|Nl<|Wq<|qW 21 29 rfl<|qM rfl<|qE rfl<|qM rfl<|gG rfl rfl ty56 rfl (Tl rfl)<|gG rfl rfl ty56 rfl (Tl rfl)<|qU rfl rfl rfl (LO.eql_pre ⟨a,(n:Int)⟩ q rfl rfl rfl)<|qT rfl rfl rfl<|qA rfl<|Nl<|Wz ⟨.inl rfl,_,mt,Rc (Rt rfl) (Rv),aM,?_⟩
 exact ⟨rfl,rfl⟩
theorem containsX_any (p:Pre) (a:Ad) (n:Nat) (hp:p.len=(n:Int)) (hv:validA a.v6 a.hi a.lo=true) (h1:U64 a.hi) (h2:U64 a.lo) (hn:(n:Int)≤widthA a):AFn Tryz.prog 40 0 [.agg (preC p),.agg (adC a)] mt (.base (.bool (eqPre (mkP a n) p))) mt:=by
 refine AFn.eq Tryz.func40 rfl rfl (Nat.le_of_ble_eq_true rfl) ?_
 have hm:=make_any a n hv h1 h2 hn
 obtain ⟨q,hq⟩:∃ q,mkP a n=q:=⟨_,rfl⟩
 rw [hq] at hm ⊢
 obtain ⟨b,l⟩:=p
 dsimp only at hp hm
 subst hp
 refine Wq<|qW 0 3 rfl<|qC rfl<|qC rfl<|qA rfl<|Nl<|Wq<|qW 7 17 rfl<|qG rfl ty54 rfl (Tl rfl)<|qF rfl ty56 rfl<|qL rfl ty3 rfl<|qY rfl (hm) fok83 rfl<|qM rfl<|qX rfl<|qX rfl<|qB rfl ty56<|qS rfl ty56 (Sl rfl) rfl<|qA rfl<|Nl<|Wq<|qW 21 29 rfl<|qM rfl<|qE rfl<|qM rfl<|gG rfl rfl ty56 rfl (Tl rfl)<|gG rfl rfl ty56 rfl (Tl rfl)<|qU rfl rfl rfl (LO.eql_pre q ⟨b,(n:Int)⟩ rfl rfl rfl)<|qT rfl rfl rfl<|qA rfl<|Nl<|Wz ⟨.inl rfl,_,mt,Rc (Rt rfl) (Rv),aM,?_⟩
 exact ⟨rfl,rfl⟩
set_option maxHeartbeats 1000000 in
theorem last_any (p:Pre) (n:Nat) (hp:p.len=(n:Int)) (hv:validA p.ad.v6 p.ad.hi p.ad.lo=true) (h1:U64 p.ad.hi) (h2:U64 p.ad.lo) (hn:(n:Int)≤widthA p.ad):AFn Tryz.prog 173 0 [.agg (preC p)] mt (.agg (adC (mkAd .or p.ad n))) mt:=by
 refine AFn.eq Tryz.func173 rfl rfl (Nat.le_of_ble_eq_true rfl) ?_
 have hba:=bytesX_any p.ad hv h1 h2
 obtain ⟨a,l⟩:=p
 dsimp only at hp hba hn ⊢
 subst hp
 have hln:=addrL_len a
 have hv6:(((addrL a).length:Int) == 16)=a.v6:=by rw [hln];cases a.v6<;>rfl
 have hlv:(addrL a).length=4∧a.v6=false∨(addrL a).length=16∧a.v6=true:=by
  rw [hln];cases a.v6<;>simp
 have hw:widthA a=8 * ((addrL a).length:Int):=by
  unfold widthA
  rcases hlv with ⟨e1,e2⟩|⟨e1,e2⟩<;>rw [e1,e2]<;>rfl
 have hB:=addrL_isB a
 obtain ⟨b,hb⟩:∃ b,addrL a=b:=⟨_,rfl⟩
 have hmk:mkL .or a n=chgs .or b n (8 * b.length - n):=by unfold mkL;rw [hb]
 rw [hb] at hba hln hlv hw hB hv6
 have hmax:(if (0:Int) < (n:Int) then (n:Int) else 0)=(n:Int):=by split<;>omega
 refine Wq<|qW 0 2 rfl<|qC rfl<|qB rfl ty54<|Nl<|Wq<|qW 6 10 rfl<|qF rfl ty56 rfl<|qG rfl ty54 rfl (Tl rfl)<|Od rfl rfl (LO.callO (fr:=[]) rfl rfl (hba) fok85 (.cons rfl (.pure rfl) .nil) (bytesC_pure _) (by decide))<|qA rfl<|Nl<|Wq<|Wq<|qW 14 18 rfl<|qF rfl ty56 rfl<|qL rfl ty3 rfl<|Od rfl rfl (LO.max rfl rfl rfl)<|qA rfl<|Nl ?_
 rw [hmax]
 rw [show b=chgs .or b n 0 from rfl]
 rw [show (n:Int)=((n + 0:Nat):Int) from rfl]
 have hl0:=chgs_len .or b n 0
 rw [hl0]
 refine Wb<|W.rename [(0,0),(1,8),(2,1)] 3 (T':=up (up (up (up mt 1 (some (.own 0 0))) 2 (some (.own 2 0))) 3 (some (.osl 1 0 b.length 1))) 4 (some (.base (.int .i64 ((n + 0:Nat):Int))))) (H':=up (up (up mt 0 (some (preC ⟨a,(n:Int)⟩))) 1 (some (bytesC (chgs .or b n 0)))) 2 (some (adC ⟨false,0,0⟩))) (by decide) ?_ ?_ ?_
 ·exact aU (lR rfl) (aU (lI rfl) (aU (lI rfl) (aU (lI rfl) aM)))
 ·exact aU (kR rfl) (aU (kP rfl (bytesC_pure _)) (aU (kR rfl) aM))
 refine W.loop_ind (α:=Nat) (fun x=>8 * b.length - n - x) 3 (fun x=>up (up (up (up mt 1 (some (.own 0 0))) 2 (some (.own 2 0))) 3 (some (.osl 1 0 b.length 1))) 4 (some (.base (.int .i64 ((n + x:Nat):Int))))) (fun x=>up (up (up mt 0 (some (preC ⟨a,(n:Int)⟩))) 1 (some (bytesC (chgs .or b n x)))) 2 (some (adC ⟨false,0,0⟩))) (fun x=>n + x≤8 * b.length) 0 (show n + 0≤8 * b.length from by omega) ?_
 rintro k hIA ihA
 try (dsimp only at hIA)
 try dsimp only
 have hlk:=chgs_len .or b n k
 by_cases hc:n + k < 8 * b.length
 ·have g2:decide (((n + k:Nat):Int) < 8 * (b.length:Int))=true:=decide_eq_true (by omega)
  refine Wq<|Wq<|qW 22 27 rfl<|qM rfl<|qM rfl<|Od rfl rfl (LO.len rfl rfl ty24)<|Od rfl rfl (LO.mul_in rfl rfl rfl (iW _ (by omega)))<|qK rfl<|Nl<|Wt rfl ‹_›<|Wu<|Wq<|Wb ?_
  have hq:((n + k:Nat):Int) / 8=(((n + k) / 8:Nat):Int):=by omega
  have hj:(n + k) / 8 < b.length:=by omega
  refine qW 31 43 rfl<|qM rfl<|qM rfl<|Od rfl rfl (LO.quo_in rfl rfl rfl (by omega) (by omega) (iW _ (by omega)))<|Od rfl rfl (Ia rfl rfl rfl hq ty24 ty5 hj)<|Od rfl rfl (Ld rfl rfl rfl (by_at0 (by rw [hlk];exact hj)) ty5 rfl)<|qM rfl<|Od rfl rfl (LO.rem_in rfl rfl rfl (by omega) (by omega))<|Od rfl rfl (Ci rfl rfl ty3 ty129 (IntWalk.u64_in _ (by omega)))<|Od rfl rfl (LO.shr rfl rfl rfl (by omega))<|Od rfl rfl (LO.or rfl rfl rfl)<|Od rfl rfl (Ia rfl rfl rfl hq ty24 ty5 hj)<|qS rfl ty5 (by_sp (by rw [hlk];exact hj)) rfl<|Nl ?_
  rw [show (chgs .or b n k).set ((n + k) / 8) (bitV .or .u8 (gB (chgs .or b n k) ((n + k) / 8)) ((128:Int).fdiv (2 ^ (min (((n + k:Nat):Int) % 8).toNat IntKind.u8.bits))))=chgs .or b n (k + 1) from (chgs_snoc _ _ _ _).symm]
  refine qW 47 50 rfl<|qM rfl<|qZ rfl (iW _ (by omega))<|qA rfl<|Nl ?_
  rw [show ((n + k:Nat):Int) + 1=((n + (k + 1):Nat):Int) from by omega]
  refine WL.rename [(0,0),(1,1),(2,2)] 3 (by decide) ?_ ?_ (ihA (k + 1) (show 8 * b.length - n - (k + 1) < 8 * b.length - n - k from by omega) (show n + (k + 1)≤8 * b.length from by omega))
  ·exact aU (lR rfl) (aU (lI rfl) (aU (lI rfl) (aU (lI rfl) aM)))
  ·exact aU (kR rfl) (aU (kP rfl (bytesC_pure _)) (aU (kR rfl) aM))
 ·have g2:decide (((n + k:Nat):Int) < 8 * (b.length:Int))=false:=decide_eq_false (by omega)
  refine Wq<|Wq<|qW 22 27 rfl<|qM rfl<|qM rfl<|Od rfl rfl (LO.len rfl rfl ty24)<|Od rfl rfl (LO.mul_in rfl rfl rfl (iW _ (by omega)))<|qK rfl<|Nl<|Wo rfl ‹_›<|Wx ?_
  clear ihA
  obtain rfl:k=8 * b.length - n:=by omega
  rw [show n + (8 * b.length - n)=8 * b.length from by omega]
  have hfr:=fromX_any (chgs .or b n (8 * b.length - n)) (chgs_isB _ _ _ _ hB) (by rw [hlk];omega)
  rw [hlk] at hfr
  refine Wq<|qW 54 62 rfl<|qM rfl<|Od rfl rfl (C0 (fr:=[1]) rfl rfl (hfr) fok74 (.cons rfl (.one (.osl (by decide) rfl (bytes_tk hlk) (bytesC_pure _))) .nil) rfl)<|qM rfl<|qX rfl<|qX rfl<|qB rfl ty54<|qS rfl ty54 (Sl rfl) rfl<|qA rfl<|Nl<|Wq<|qW 66 68 rfl<|qG rfl ty54 rfl (Tl rfl)<|qS rfl ty54 (Sl rfl) rfl<|Nl<|Wz ⟨.inl rfl,_,mt,(Rc (Ra0 rfl rfl ty54 rfl (Tl rfl)) Rv),aM,?_⟩
  exact ⟨by unfold mkAd;rw [hmk,hv6];rfl,rfl⟩
def lan4:Pre:=⟨⟨false,0,3221225984⟩,24⟩
def lan6:Pre:=⟨⟨true,2306139568115548160,0⟩,64⟩
theorem lan4_any:AFn Tryz.prog 19 0 [] mt (.agg (preC lan4)) mt:=by
 refine AFn.eq Tryz.func19 rfl rfl (Nat.le_of_ble_eq_true rfl)<|Wq<|qW 0 1 rfl<|qB rfl ty56<|Nl<|Wq<|qW 5 8 rfl<|Od rfl rfl (Bs rfl ty54 (.cons rfl rfl rfl rfl (Sl rfl) .nil))<|Od rfl rfl (Bs rfl ty56 (.cons rfl rfl rfl rfl (Sl rfl) (.cons rfl rfl rfl rfl (Sl rfl) .nil)))<|qS rfl ty56 (Sl rfl) rfl<|Nl<|Wz ⟨.inl rfl,_,mt,(Rc (Ra0 rfl rfl ty56 rfl (Tl rfl)) Rv),aM,?_⟩
 exact ⟨rfl,rfl⟩
theorem lan6_any:AFn Tryz.prog 20 0 [] mt (.agg (preC lan6)) mt:=by
 refine AFn.eq Tryz.func20 rfl rfl (Nat.le_of_ble_eq_true rfl)<|Wq<|qW 0 1 rfl<|qB rfl ty56<|Nl<|Wq<|qW 5 8 rfl<|Od rfl rfl (Bs rfl ty54 (.cons rfl rfl rfl rfl (Sl rfl) (.cons rfl rfl rfl rfl (Sl rfl) .nil)))<|Od rfl rfl (Bs rfl ty56 (.cons rfl rfl rfl rfl (Sl rfl) (.cons rfl rfl rfl rfl (Sl rfl) .nil)))<|qS rfl ty56 (Sl rfl) rfl<|Nl<|Wz ⟨.inl rfl,_,mt,(Rc (Ra0 rfl rfl ty56 rfl (Tl rfl)) Rv),aM,?_⟩
 exact ⟨rfl,rfl⟩
def fourA (n:Int):Ad:=⟨false,0,3221225985 + n⟩
def sixA (n:Int):Ad:=⟨true,2306139568115548160,1 + n⟩
theorem fourM_any (n:Int) (h0:0≤n) (h1:n≤1000):AFn Tryz.prog 95 0 [.base (.int .i64 n)] mt (.agg (adC (fourA n))) mt:=by
 refine AFn.eq Tryz.func95 rfl rfl (Nat.le_of_ble_eq_true rfl)<|Wq<|qW 0 1 rfl<|qB rfl ty54<|Nl<|Wq<|qW 5 11 rfl<|qM rfl<|qZ rfl (iW _ (by omega))<|Od rfl rfl (Ci rfl rfl ty3 ty52 (IntWalk.u64_in _ (by omega)))<|qZ rfl (IntWalk.u64_in _ (by omega))<|Od rfl rfl (Bs rfl ty54 (.cons rfl rfl rfl rfl (Sl rfl) .nil))<|qS rfl ty54 (Sl rfl) rfl<|Nl<|Wz ⟨.inl rfl,_,mt,(Rc (Ra0 rfl rfl ty54 rfl (Tl rfl)) Rv),aM,?_⟩
 exact ⟨by rw [show (3221225984:Int) + (1 + n)=3221225985 + n from by omega];rfl,rfl⟩
theorem sixM_any (n:Int) (h0:0≤n) (h1:n≤1000):AFn Tryz.prog 100 0 [.base (.int .i64 n)] mt (.agg (adC (sixA n))) mt:=by
 refine AFn.eq Tryz.func100 rfl rfl (Nat.le_of_ble_eq_true rfl)<|Wq<|qW 0 1 rfl<|qB rfl ty54<|Nl<|Wq<|qW 5 10 rfl<|qM rfl<|qZ rfl (iW _ (by omega))<|Od rfl rfl (Ci rfl rfl ty3 ty52 (IntWalk.u64_in _ (by omega)))<|Od rfl rfl (Bs rfl ty54 (.cons rfl rfl rfl rfl (Sl rfl) (.cons rfl rfl rfl rfl (Sl rfl) (.cons rfl rfl rfl rfl (Sl rfl) .nil))))<|qS rfl ty54 (Sl rfl) rfl<|Nl<|Wz ⟨.inl rfl,_,mt,(Rc (Ra0 rfl rfl ty54 rfl (Tl rfl)) Rv),aM,?_⟩
 exact ⟨rfl,rfl⟩
theorem within_any (n l h:Int):AFn Tryz.prog 168 0 [.base (.int .i64 n),.base (.int .i64 l),.base (.int .i64 h)] mt (.base (.bool (decide (l≤n) && decide (n≤h)))) mt:=by
 refine AFn.eq Tryz.func168 rfl rfl (Nat.le_of_ble_eq_true rfl)<|Wq<|qW 0 1 rfl<|qA rfl<|Nl<|Wq<|qW 5 14 rfl<|qM rfl<|qM rfl<|qGe rfl<|qM rfl<|RW.split (t:=10) rfl (fun hb2=>?_) (fun hb2=>?_)
 ·
  try (have hb2p:=of_decide_eq_true hb2)
  try (have hb2q:=eq_of_beq hb2)
  refine gM rfl hb2<|gM rfl hb2<|gLe rfl hb2<|qT rfl hb2 rfl<|qA rfl<|Nl<|Wz ⟨.inl rfl,_,mt,Rc (Rt rfl) (Rv),aM,?_⟩
  exact ⟨by (simp_all [retOf])<;>omega,rfl⟩
 ·
  try (have hb2p:=of_decide_eq_false hb2)
  try (have hb2q:=ne_of_beq_false hb2)
  refine qD rfl hb2 rfl<|qD rfl hb2 rfl<|qD rfl hb2 rfl<|qP rfl hb2 rfl<|qA rfl<|Nl<|Wz ⟨.inl rfl,_,mt,Rc (Rt rfl) (Rv),aM,?_⟩
  exact ⟨by (simp_all [retOf])<;>omega,rfl⟩
theorem within_yes {n l h:Int} (h1:l≤n) (h2:n≤h):AFn Tryz.prog 168 0 [.base (.int .i64 n),.base (.int .i64 l),.base (.int .i64 h)] mt (.base (.bool true)) mt:=by
 have:=within_any n l h
 rwa [decide_eq_true h1,decide_eq_true h2] at this
theorem four_in:∀ n:Fin 15,eqPre (mkP (fourA (n.val:Int)) 24) lan4=true∧eqA (fourA (n.val:Int)) lan4.ad=false∧eqA (fourA (n.val:Int)) (mkAd .or lan4.ad 24)=false:=by decide +kernel
theorem six_in:∀ n:Fin 15,eqPre (mkP (sixA (n.val:Int)) 64) lan6=true∧eqA (sixA (n.val:Int)) lan6.ad=false:=by decide +kernel
theorem lan_ok:eqPre lan4 (mkP lan4.ad 24)=true∧eqPre lan6 (mkP lan6.ad 64)=true:=by decide +kernel
def zeroA (a:Ad):Bool:=eqA a ⟨false,0,0⟩
theorem zero_any (a:Ad):AFn Tryz.prog 172 0 [.agg (adC a)] mt (.base (.bool (zeroA a))) mt:=by
 refine AFn.eq Tryz.func172 rfl rfl (Nat.le_of_ble_eq_true rfl)<|Wq<|qW 0 2 rfl<|qC rfl<|qA rfl<|Nl<|Wq<|qW 6 10 rfl<|qG rfl ty54 rfl (Tl rfl)<|Od rfl rfl (Bs rfl ty54 .nil)<|Od rfl rfl (LO.eql_ad a ⟨false,0,0⟩ rfl rfl rfl)<|qA rfl<|Nl<|Wz ⟨.inl rfl,_,mt,Rc (Rt rfl) (Rv),aM,?_⟩
 exact ⟨rfl,rfl⟩
theorem memsC_len (l:List Mem):(memsC l).length=l.length * 6:=by
 induction l with
 | nil=>rfl
 | cons x l ih=>rw [show memsC (x::l)=memC x++memsC l from rfl,List.length_append,ih,show (memC x).length=6 from rfl,List.length_cons];omega
theorem memsC_pure (l:List Mem):(memsC l).all AV.pure1=true:=by
 induction l with
 | nil=>rfl
 | cons x l ih=>rw [show memsC (x::l)=memC x++memsC l from rfl,List.all_append,ih];rfl
theorem mems_all {l:List Mem} {n:Nat} (h:l.length=n):Tk (memsC l) 0 (n * 6) (memsC l):=by
 have:=Tk.all (memsC l)
 rwa [memsC_len,h] at this
theorem all_any (d:Db) (h1:d.servers.length≤1000) (h2:d.members.length≤1000):AFn Tryz.prog 135 0 [.agg (dbC d)] mt (.isl (memsC (d.servers++d.members)) (d.servers++d.members).length) mt:=by
 refine AFn.eq Tryz.func135 rfl rfl (Nat.le_of_ble_eq_true rfl)<|Wq<|qW 0 2 rfl<|qC rfl<|qA rfl<|Nl<|Wq<|Wd 6 13 (by decide) rfl mixed rfl<|qF rfl ty105 rfl<|qL rfl ty103 rfl<|Od rfl rfl (Lan rfl rfl (Ssi rfl rfl (memsC_len _)) ty103 ty103 ty150 (by decide) (by omega) (by omega) (by decide))<|qF rfl ty105 rfl<|qL rfl ty103 rfl<|Od rfl rfl (Lap rfl rfl (Ssi rfl rfl (memsC_len _)) rfl (mems_all rfl) ty103 ty103 ty150 (by decide) (by omega) (by omega) (by decide))<|qA rfl<|Nl ⟨by kernel_rfl,?_⟩
 rw [show memsC d.servers++memsC d.members=memsC (d.servers++d.members) from by simp [memsC],show d.servers.length + d.members.length=(d.servers++d.members).length from by simp]
 refine Wy (t:=2) rfl rfl (mems_all rfl) (memsC_pure _)<|Wz ⟨.inl rfl,_,mt,Rc (Rt rfl) (Rv),aM,?_⟩
 exact ⟨rfl,rfl⟩
end Go.Proofs.YtlcndmciognneaaGreatDoor
