/-
  The bytes of an address: both texts. Prefixes: the document's making of one, whether it holds an address, its last address. Tables of prefixes, plain: the order, putting, getting; what objects permit and what a table of them says. Prefixes as the document makes them are valid for the program, too (plain): bytes against masks. Prefixes and addresses as the program compares and checks them. Addresses and prefixes compared; which prefixes are valid; what covers what. What the document makes of an address is a prefix without bits behind its length. Numbers from the list: a number of a range, an address. Prefixes and objects that are drawn. Objects that are drawn. Tables of prefixes: which are valid, where a prefix stands, its value. A search by halves; where a prefix stands in a table, its value.
-/
import Derived.Test.YtbfnfgpjgdbmeaaGreatDoorQe
import Derived.Test.YtbfnfgpjgdbmeaaGreatDoorMab
namespace Go.Proofs.YtbfnfgpjgdbmeaaGreatDoor
open Go.RowKit
theorem by_sp {l:List Int} {k:Nat} {v:Int} (h:k < l.length):Sp (bytesC l) (0 + k * 1) [.base (.int .u8 v)] (bytesC (l.set k v)):=by
 have:=Sp.set (bytesC l) k (.base (.int .u8 v)) (by rwa [bytesC_len])
 rw [show bytesC (l.set k v)=(bytesC l).set k (.base (.int .u8 v)) from by simp [bytesC,List.map_set]]
 simpa using this
def numA (a:Ad):Int:=a.hi * 18446744073709551616 + a.lo
def addrL (a:Ad):List Int:=addrB a.v6 a.hi a.lo
theorem addrL_len (a:Ad):(addrL a).length=if a.v6 then 16 else 4:=addrB_len _ _ _
theorem addrL_isB (a:Ad):IsB (addrL a):=by unfold addrL addrB;exact beN_isB _ _
theorem bytesX_any (a:Ad) (hv:validA a.v6 a.hi a.lo=true) (_h1:U64 a.hi) (h2:U64 a.lo):AFn Tryz.prog 90 0 [.agg (adC a)] mt (.osl 0 0 (addrL a).length 1) (up mt 0 (some (bytesC (addrL a)))):=by
 refine AFn.eq Tryz.func90 rfl rfl (Nat.le_of_ble_eq_true rfl) ?_
 have hav:=rvalid_any a
 rw [hv] at hav
 obtain ⟨n,hn⟩:∃ n,(if a.v6 then 16 else 4)=n:=⟨_,rfl⟩
 have hlen:(addrL a).length=n:=by rw [addrL_len,hn]
 have hbe:addrL a=beN n (numA a):=by unfold addrL addrB;rw [hn];rfl
 have hpn:preB n n (numA a)=beN n (numA a):=rfl
 rw [hlen]
 have hn16:1≤n∧n≤16:=by rw [← hn];split<;>omega
 have hba:=fun i hi=>byteN_at a.hi a.lo h2.1 h2.2 i hi
 refine Wq<|qW 0 2 rfl<|qC rfl<|qA rfl<|Nl<|Wq<|Wq<|qW 6 9 rfl<|qG rfl ty36 rfl (Tl rfl)<|qY rfl (hav) fok114 rfl<|qO rfl<|Nl<|Wo rfl rfl<|Wu<|Wq<|qW 18 19 rfl<|qA rfl<|Nl ?_
 have hnc:a.v6=true∧n=16∨a.v6=false∧n=4:=by
  cases hb:a.v6<;>rw [hb] at hn<;>simp at hn
  ·exact .inr ⟨rfl,hn.symm⟩
  ·exact .inl ⟨rfl,hn.symm⟩
 unfold adC
 refine Wq<|Wq<|qW 23 25 rfl<|qF rfl ty36 rfl<|qL rfl ty4 rfl<|Nl ?_
 rcases hnc with ⟨hb,hn4⟩|⟨hb,hn4⟩
 case' inl =>
  refine Wt rfl ‹_›<|qW 29 30 rfl<|qA rfl<|Nl ?_
  rw [show (16:Int)=((n:Nat):Int) from by rw [hn4];rfl]
 case' inr =>
  refine Wo rfl ‹_›<|Wu ?_
  rw [show (4:Int)=((n:Nat):Int) from by rw [hn4];rfl]
 all_goals
  repeat (refine Wq ?_)
  refine qW 34 35 rfl<|qA rfl<|Nl ?_
  repeat (refine Wq ?_)
  refine qW 39 42 rfl<|qM rfl<|Od rfl rfl (LO.sub_in rfl rfl rfl (iW _ (by omega)))<|qA rfl<|Nl<|W.name 42 (42 + 1) (t:=4) (sz:=1) rfl (by decide) (by decide) ?_
  rw [show (n:Int) - 1=((n:Nat):Int) - 1 - ((0:Nat):Int) from by omega]
  refine Wb<|W.loop_keep (α:=Nat) (fun x=>n - x) 2 (fun x=>[(1,.own 0 0),(4,.osl 1 0 (preB n x (numA a)).length 1),(5,.base (.int .i64 ((n:Int) - 1 - (x:Int))))]) (fun x=>up (up mt 0 (some (adC a))) 1 (some (bytesC (preB n x (numA a))))) (fun x=>x≤n) 0 [(0,0),(1,42)] .nil (show 0≤n from Nat.zero_le _) (by decide) ?_ ?_ ?_
  ·exact lC (lI rfl) (lC (lI rfl) (lC (lR rfl) lN))
  ·exact aU (kR rfl) (aU (kR rfl) aM)
  rintro j hIA ihA
  try (dsimp only at hIA)
  try dsimp only [baseT,List.cons_append,List.nil_append]
  have hpl:=preB_len n j (numA a)
  by_cases hc:j < n
  ·have g1:decide ((n:Int) - 1 - (j:Int) ≥ 0)=true:=decide_eq_true (by omega)
   have hsn:=preB_snoc n j (numA a)
   obtain ⟨q,hqe⟩:∃ q,n - 1 - j=q:=⟨_,rfl⟩
   have hqi:(n:Int) - 1 - (j:Int)=(q:Int):=by omega
   have hba:=hba q (by omega)
   rw [hqe] at hsn
   have hmod:(8:Int) * ((q:Int) % 8)=((8 * (q % 8):Nat):Int):=by omega
   have hsh:∀ w:Int,IntKind.u8.wrap (w.fdiv (2 ^ (min (((8 * (q % 8):Nat):Int)).toNat IntKind.u64.bits)))=w / 2 ^ (8 * (q % 8)) % 256:=fun w=>by
    rw [Int.toNat_natCast,Nat.min_eq_left (show 8 * (q % 8)≤IntKind.u64.bits from by show _≤64;omega),Int.fdiv_eq_ediv_of_nonneg _ (Int.le_of_lt (Int.pow_pos (by decide))),IntKind.wrap_u8']
   rw [hqi]
   rw [hqi] at g1
   unfold adC
   repeat (refine Wq ?_)
   refine qW 46 48 rfl<|qM rfl<|qGe rfl<|Nl<|Wt rfl rfl<|Wu ?_
   repeat (refine Wq ?_)
   refine Wb ?_
   repeat (refine Wq ?_)
   refine qW 52 55 rfl<|qF rfl ty36 rfl<|qL rfl ty34 rfl<|qA rfl<|Nl ?_
   by_cases h8:8≤q
   ·have g2:decide ((q:Int) ≥ 8)=true:=decide_eq_true (by omega)
    rw [if_pos h8] at hba
    have hfin:IntKind.u8.wrap ((a.hi).fdiv (2 ^ (min (((8 * (q % 8):Nat):Int)).toNat IntKind.u64.bits)))=byteN (numA a) q:=by rw [hsh,hba];rfl
    repeat (refine Wq ?_)
    refine qW 59 61 rfl<|qM rfl<|qGe rfl<|Nl<|Wt rfl ‹_›<|qW 65 68 rfl<|qF rfl ty36 rfl<|qL rfl ty34 rfl<|qA rfl<|Nl<|qW 72 83 rfl<|qM rfl<|qM rfl<|qM rfl<|Od rfl rfl (LO.rem_in rfl rfl rfl (by omega) (by omega))<|Od rfl rfl (Ci rfl rfl ty3 ty151 (IntWalk.u64_in _ (by omega)))<|Od rfl rfl (LO.mul_in rfl rfl rfl (IntWalk.u64_in _ (by omega))) ?_
    rw [hmod]
    refine Od rfl rfl (LO.shr rfl rfl rfl (by omega))<|Od rfl rfl (LO.conv rfl rfl ty34 ty5) ?_
    rw [hfin]
    refine Od rfl rfl (LO.buildSlice rfl ty97 ty5 (by decide) (by decide) (.cons rfl rfl rfl rfl (Sl rfl) .nil))<|Od rfl rfl (Lap rfl rfl (Sso rfl rfl (Tl rfl)) rfl (bytes_tk rfl) ty97 ty97 ty5 (by decide) (by omega) (by omega) (by decide))<|qA rfl<|Nl ?_
    rw [show bytesC (preB n j (numA a))++[AV.base (.int .u8 (byteN (numA a) q))]=bytesC (preB n (j + 1) (numA a)) from by rw [hsn,bytesC_app];rfl,show (preB n j (numA a)).length + 1=(preB n (j + 1) (numA a)).length from by rw [preB_len,preB_len]]
    refine qW 87 90 rfl<|qM rfl<|Od rfl rfl (LO.sub_in rfl rfl rfl (iW _ (by omega)))<|qA rfl<|Nl ?_
    rw [show (q:Int) - 1=(n:Int) - 1 - ((j + 1:Nat):Int) from by omega]
    refine WL.renameL [(0,0),(1,81)] 2 (by decide) ?_ ?_ (ihA (j + 1) (show n - (j + 1) < n - j from by omega) (show (j + 1)≤n from by omega))
    ·exact lC (lI rfl) (lC (lI rfl) (lC (lR rfl) lN))
    ·exact aU (kP rfl (bytesC_pure _)) (aU (kR rfl) aM)
   ·have g2:decide ((q:Int) ≥ 8)=false:=decide_eq_false (by omega)
    rw [if_neg h8] at hba
    have hfin:IntKind.u8.wrap ((a.lo).fdiv (2 ^ (min (((8 * (q % 8):Nat):Int)).toNat IntKind.u64.bits)))=byteN (numA a) q:=by rw [hsh,hba];rfl
    repeat (refine Wq ?_)
    refine qW 59 61 rfl<|qM rfl<|qGe rfl<|Nl<|Wo rfl ‹_›<|Wu<|qW 72 83 rfl<|qM rfl<|qM rfl<|qM rfl<|Od rfl rfl (LO.rem_in rfl rfl rfl (by omega) (by omega))<|Od rfl rfl (Ci rfl rfl ty3 ty151 (IntWalk.u64_in _ (by omega)))<|Od rfl rfl (LO.mul_in rfl rfl rfl (IntWalk.u64_in _ (by omega))) ?_
    rw [hmod]
    refine Od rfl rfl (LO.shr rfl rfl rfl (by omega))<|Od rfl rfl (LO.conv rfl rfl ty34 ty5) ?_
    rw [hfin]
    refine Od rfl rfl (LO.buildSlice rfl ty97 ty5 (by decide) (by decide) (.cons rfl rfl rfl rfl (Sl rfl) .nil))<|Od rfl rfl (Lap rfl rfl (Sso rfl rfl (Tl rfl)) rfl (bytes_tk rfl) ty97 ty97 ty5 (by decide) (by omega) (by omega) (by decide))<|qA rfl<|Nl ?_
    rw [show bytesC (preB n j (numA a))++[AV.base (.int .u8 (byteN (numA a) q))]=bytesC (preB n (j + 1) (numA a)) from by rw [hsn,bytesC_app];rfl,show (preB n j (numA a)).length + 1=(preB n (j + 1) (numA a)).length from by rw [preB_len,preB_len]]
    refine qW 87 90 rfl<|qM rfl<|Od rfl rfl (LO.sub_in rfl rfl rfl (iW _ (by omega)))<|qA rfl<|Nl ?_
    rw [show (q:Int) - 1=(n:Int) - 1 - ((j + 1:Nat):Int) from by omega]
    refine WL.renameL [(0,0),(1,81)] 2 (by decide) ?_ ?_ (ihA (j + 1) (show n - (j + 1) < n - j from by omega) (show (j + 1)≤n from by omega))
    ·exact lC (lI rfl) (lC (lI rfl) (lC (lR rfl) lN))
    ·exact aU (kP rfl (bytesC_pure _)) (aU (kR rfl) aM)
  ·have g1:decide ((n:Int) - 1 - (j:Int) ≥ 0)=false:=decide_eq_false (by omega)
   repeat (refine Wq ?_)
   refine qW 46 48 rfl<|qM rfl<|qGe rfl<|Nl<|Wo rfl ‹_›<|Wx ?_
   obtain rfl:j=n:=by omega
   rw [preB_len,hpn,← hbe]
   repeat (refine Wq ?_)
   refine qW 94 96 rfl<|qM rfl<|qA rfl<|Nl<|W.rename [(0,1)] 1 (T':=up mt 2 (some (.osl 0 0 (j) 1))) (H':=up mt 0 (some (bytesC (addrL a)))) (by decide) ?_ ?_ ?_
   ·exact aI aM
   ·exact aU (kP rfl (bytesC_pure _)) aM
   refine Wz ⟨.inl rfl,_,up mt 0 (some (bytesC (addrL a))),Rc (Rt0 rfl) Rv,aU rfl aM,?_⟩
   exact ⟨rfl,rfl⟩
def widthA (a:Ad):Int:=if a.v6 then 128 else 32
theorem width_any (a:Ad):AFn Tryz.prog 113 0 [.agg (adC a)] mt (.base (.int .i64 (widthA a))) mt:=by
 refine AFn.eq Tryz.func113 rfl rfl (Nat.le_of_ble_eq_true rfl) ?_
 unfold adC
 refine Wq<|qW 0 2 rfl<|qC rfl<|qA rfl<|Nl<|Wq<|Wq<|qW 6 8 rfl<|qF rfl ty36 rfl<|qL rfl ty4 rfl<|Nl<|W.cond rfl (fun hb1=>?_) (fun hb1=>?_)
 ·
  try (have hb1p:=of_decide_eq_true hb1)
  try (have hb1q:=eq_of_beq hb1)
  refine Wq<|qW 12 13 rfl<|qA rfl<|Nl<|Wz ⟨.inl rfl,_,mt,Rc (Rt0 rfl) (Rv),aM,?_⟩
  exact ⟨by (simp_all [widthA,retOf])<;>omega,rfl⟩
 ·
  try (have hb1p:=of_decide_eq_false hb1)
  try (have hb1q:=ne_of_beq_false hb1)
  refine Wu<|Wq<|qW 17 18 rfl<|qA rfl<|Nl<|Wz ⟨.inl rfl,_,mt,Rc (Rt0 rfl) (Rv),aM,?_⟩
  exact ⟨by (simp_all [widthA,retOf])<;>omega,rfl⟩
def bitAt (i:Nat):Int:=(128:Int).fdiv (2 ^ (min ((i:Int) % 8).toNat IntKind.u8.bits))
def chgL (op:BinOp) (l:List Int) (i:Nat):List Int:=l.set (i / 8) (bitV op .u8 (gB l (i / 8)) (bitAt i))
def chgs (op:BinOp) (l:List Int) (n k:Nat):List Int:=(List.range' n k).foldl (chgL op) l
theorem chgs_snoc (op:BinOp) (l:List Int) (n k:Nat):chgs op l n (k + 1)=chgL op (chgs op l n k) (n + k):=by
 unfold chgs
 rw [List.range'_concat,List.foldl_append]
 simp
theorem chgs_len (op:BinOp) (l:List Int) (n k:Nat):(chgs op l n k).length=l.length:=by
 induction k with
 | zero=>rfl
 | succ k ih=>rw [chgs_snoc,chgL,List.length_set,ih]
theorem bitV_u8 (op:BinOp) (x y:Int):0≤bitV op .u8 x y∧bitV op .u8 x y≤255:=by
 have h:∀ z:Int,0≤IntKind.u8.wrap z∧IntKind.u8.wrap z≤255:=fun z=>by rw [IntKind.wrap_u8'];omega
 unfold bitV
 split<;>exact h _
theorem chgs_isB (op:BinOp) (l:List Int) (n k:Nat) (h:IsB l):IsB (chgs op l n k):=by
 induction k with
 | zero=>exact h
 | succ k ih =>
  rw [chgs_snoc]
  intro x hx
  rcases List.mem_or_eq_of_mem_set hx with h1|h1
  ·exact ih x h1
  ·rw [h1];exact bitV_u8 _ _ _
def mkL (op:BinOp) (a:Ad) (n:Nat):List Int:=chgs op (addrL a) n (8 * (addrL a).length - n)
def mkAd (op:BinOp) (a:Ad) (n:Nat):Ad:=⟨a.v6,(fb (mkL op a n)).1,(fb (mkL op a n)).2⟩
def mkP (a:Ad) (n:Nat):Pre:=⟨mkAd .andNot a n,n⟩
set_option maxHeartbeats 1000000 in
theorem make_any (a:Ad) (n:Nat) (hv:validA a.v6 a.hi a.lo=true) (h1:U64 a.hi) (h2:U64 a.lo) (hn:(n:Int)≤widthA a):AFn Tryz.prog 39 0 [.agg (adC a),.base (.int .i64 (n:Int))] mt (.tup [.agg (preC (mkP a n)),.base (.int .i64 0)]) mt:=by
 refine AFn.eq Tryz.func39 rfl rfl (Nat.le_of_ble_eq_true rfl) ?_
 have hva:=rvalid_any a
 rw [hv] at hva
 have hwa:=width_any a
 have hba:=bytesX_any a hv h1 h2
 have hln:=addrL_len a
 have hv6:(((addrL a).length:Int) == 16)=a.v6:=by rw [hln];cases a.v6<;>rfl
 have hlv:(addrL a).length=4∧a.v6=false∨(addrL a).length=16∧a.v6=true:=by
  rw [hln];cases a.v6<;>simp
 have hw:widthA a=8 * ((addrL a).length:Int):=by
  unfold widthA
  rcases hlv with ⟨e1,e2⟩|⟨e1,e2⟩<;>rw [e1,e2]<;>rfl
 have g0:decide ((n:Int) < 0)=false:=decide_eq_false (by omega)
 have g1:decide ((n:Int) > widthA a)=false:=decide_eq_false (by omega)
 have hB:=addrL_isB a
 obtain ⟨b,hb⟩:∃ b,addrL a=b:=⟨_,rfl⟩
 have hmk:mkL .andNot a n=chgs .andNot b n (8 * b.length - n):=by unfold mkL;rw [hb]
 rw [hb] at hba hln hlv hw hB hv6
 refine Wq<|qW 0 3 rfl<|qC rfl<|qB rfl ty38<|qA rfl<|Nl<|Wq<|Wb<|Wq<|qW 7 11 rfl<|qG rfl ty36 rfl (Tl rfl)<|qY rfl (hva) fok114 rfl<|qO rfl<|qA rfl<|Nl<|Wo rfl rfl<|Wq<|qW 22 31 rfl<|qM rfl<|qK rfl<|qM rfl<|gM rfl rfl<|gG rfl rfl ty36 rfl (Tl rfl)<|gY rfl rfl (hwa) fok113 rfl<|gGt rfl rfl<|qP rfl rfl rfl<|qA rfl<|Nl<|Wo rfl ‹_›<|Wu<|Wq<|qW 42 45 rfl<|qG rfl ty36 rfl (Tl rfl)<|Od rfl rfl (LO.callO (fr:=[]) rfl rfl (hba) fok90 (.cons rfl (.pure rfl) .nil) (bytesC_pure _) (by decide))<|qA rfl<|Nl<|Wq<|Wq<|qW 49 51 rfl<|qM rfl<|qA rfl<|Nl ?_
 rw [show b=chgs .andNot b n 0 from rfl]
 rw [show (n:Int)=((n + 0:Nat):Int) from rfl]
 have hl0:=chgs_len .andNot b n 0
 rw [hl0]
 refine Wb<|W.rename [(0,0),(1,43),(2,1)] 3 (by decide) ?_ ?_ (W.loop_ind (α:=Nat) (fun x=>8 * b.length - n - x) 3 (fun x=>up (up (up (up (up mt 1 (some (.base (.int .i64 (n:Int))))) 2 (some (.own 0 0))) 4 (some (.own 2 0))) 6 (some (.osl 1 0 b.length 1))) 7 (some (.base (.int .i64 ((n + x:Nat):Int))))) (fun x=>up (up (up mt 0 (some (adC a))) 1 (some (bytesC (chgs .andNot b n x)))) 2 (some (preC ⟨⟨false,0,0⟩,0⟩))) (fun x=>n + x≤8 * b.length) 0 (show n + 0≤8 * b.length from by omega) ?_)
 ·exact aR (aI (aI (aI (aR aM))))
 ·exact aU (kR rfl) (aU (kP rfl (bytesC_pure _)) (aU (kR rfl) aM))
 rintro k hIA ihA
 try (dsimp only at hIA)
 try dsimp only
 have hlk:=chgs_len .andNot b n k
 by_cases hc:n + k < 8 * b.length
 ·have g2:decide (((n + k:Nat):Int) < 8 * (b.length:Int))=true:=decide_eq_true (by omega)
  refine Wq<|Wq<|qW 55 60 rfl<|qM rfl<|qM rfl<|Od rfl rfl (LO.len rfl rfl ty97)<|Od rfl rfl (LO.mul_in rfl rfl rfl (iW _ (by omega)))<|qK rfl<|Nl<|Wt rfl ‹_›<|Wu<|Wq<|Wb ?_
  have hq:((n + k:Nat):Int) / 8=(((n + k) / 8:Nat):Int):=by omega
  have hj:(n + k) / 8 < b.length:=by omega
  refine qW 64 76 rfl<|qM rfl<|qM rfl<|Od rfl rfl (LO.quo_in rfl rfl rfl (by omega) (by omega) (iW _ (by omega)))<|Od rfl rfl (Ia rfl rfl rfl hq ty97 ty5 hj)<|Od rfl rfl (Ld rfl rfl rfl (by_at0 (by rw [hlk];exact hj)) ty5 rfl)<|qM rfl<|Od rfl rfl (LO.rem_in rfl rfl rfl (by omega) (by omega))<|Od rfl rfl (Ci rfl rfl ty3 ty151 (IntWalk.u64_in _ (by omega)))<|Od rfl rfl (LO.shr rfl rfl rfl (by omega))<|Od rfl rfl (LO.andNot rfl rfl rfl)<|Od rfl rfl (Ia rfl rfl rfl hq ty97 ty5 hj)<|qS rfl ty5 (by_sp (by rw [hlk];exact hj)) rfl<|Nl ?_
  rw [show (chgs .andNot b n k).set ((n + k) / 8) (bitV .andNot .u8 (gB (chgs .andNot b n k) ((n + k) / 8)) ((128:Int).fdiv (2 ^ (min (((n + k:Nat):Int) % 8).toNat IntKind.u8.bits))))=chgs .andNot b n (k + 1) from (chgs_snoc _ _ _ _).symm]
  refine qW 80 83 rfl<|qM rfl<|qZ rfl (iW _ (by omega))<|qA rfl<|Nl ?_
  rw [show ((n + k:Nat):Int) + 1=((n + (k + 1):Nat):Int) from by omega]
  refine WL.rename [(0,0),(1,1),(2,2)] 3 (by decide) ?_ ?_ (ihA (k + 1) (show 8 * b.length - n - (k + 1) < 8 * b.length - n - k from by omega) (show n + (k + 1)≤8 * b.length from by omega))
  ·exact aR (aI (aI (aI (aR aM))))
  ·exact aU (kR rfl) (aU (kP rfl (bytesC_pure _)) (aU (kR rfl) aM))
 ·have g2:decide (((n + k:Nat):Int) < 8 * (b.length:Int))=false:=decide_eq_false (by omega)
  refine Wq<|Wq<|qW 55 60 rfl<|qM rfl<|qM rfl<|Od rfl rfl (LO.len rfl rfl ty97)<|Od rfl rfl (LO.mul_in rfl rfl rfl (iW _ (by omega)))<|qK rfl<|Nl<|Wo rfl ‹_›<|Wx ?_
  clear ihA
  obtain rfl:k=8 * b.length - n:=by omega
  rw [show n + (8 * b.length - n)=8 * b.length from by omega]
  have hlk':=hlk
  have hfr:=fromX_any (chgs .andNot b n (8 * b.length - n)) (chgs_isB _ _ _ _ hB) (by rw [hlk];omega)
  rw [hlk] at hfr
  refine Wq<|qW 87 95 rfl<|qM rfl<|Od rfl rfl (C0 (fr:=[1]) rfl rfl (hfr) fok91 (.cons rfl (.one (.osl (by decide) rfl (bytes_tk hlk) (bytesC_pure _))) .nil) rfl)<|qM rfl<|qX rfl<|qX rfl<|qB rfl ty36<|qS rfl ty36 (Sl rfl) rfl<|qA rfl<|Nl<|Wq<|qW 99 104 rfl<|qG rfl ty36 rfl (Tl rfl)<|qM rfl<|Od rfl rfl (Bs rfl ty38 (.cons rfl rfl rfl rfl (Sl rfl) (.cons rfl rfl rfl rfl (Sl rfl) .nil)))<|qS rfl ty38 (Sl rfl) rfl<|qA rfl<|Nl<|Wz ⟨.inl rfl,_,mt,(Rc (Ra0 rfl rfl ty38 rfl (Tl rfl)) (Rc (Rt0 rfl) Rv)),aM,?_⟩
  exact ⟨by rw [← hmk,hv6];rfl,rfl⟩
def eqPre (a b:Pre):Bool:=eqA a.ad b.ad && a.len == b.len
theorem eqPre_in (d:Nat) (a b:Pre) (w:World):(Op.equalIn (d + 3) 38 (.agg #[.bool a.ad.v6,.int .u64 a.ad.hi,.int .u64 a.ad.lo,.int .i64 a.len]) (.agg #[.bool b.ad.v6,.int .u64 b.ad.hi,.int .u64 b.ad.lo,.int .i64 b.len])).run Tryz.prog w=.ok (eqPre a b) w:=by
 rw [run_equalIn_struct w (d + 2) 38 _ _ (by kernel_rfl) (by kernel_rfl)]
 have hu:=Tryz.underlying38
 have hua:=Tryz.underlying36
 have hi:=Tryz.underlying3
 have sa:∀ w:World,(sizeOf 36).run Tryz.prog w=.ok 3 w:=fun w=>(ty36).sizeOf w
 have ea:=fun w=>eqAd_in d a.ad b.ad w
 simp [Program.fieldsOf,hu,Op.eqFields,part,isAgg,run_underlying hua,run_underlying hi,sa,run_equalIn_int _ _ _ _ _ _ _ hi,ea]
 unfold eqPre
 by_cases h:a.len=b.len<;>cases eqA a.ad b.ad<;>simp [h]
theorem LO.eql_pre {o:Oper} {E:Operand→Option AV} {H:Hp} {f:Nat} {ty:TypeId} {x y:Operand} (a b:Pre) (ho:o.op=.binOp .eql 38 x y ty) (hx:E x=some (.agg (preC a))) (hy:E y=some (.agg (preC b))):LO Tryz.prog o E H f [] [] (.base (.bool (eqPre a b))) H :=
 LO.eq_bases false [.bool a.ad.v6,.int .u64 a.ad.hi,.int .u64 a.ad.lo,.int .i64 a.len] [.bool b.ad.v6,.int .u64 b.ad.hi,.int .u64 b.ad.lo,.int .i64 b.len] ho hx hy rfl rfl (guard_run x y false (by kernel_rfl)) (eqPre_in 9997 a b)
theorem pvalidX_any (p:Pre) (n:Nat) (hp:p.len=(n:Int)) (hv:validA p.ad.v6 p.ad.hi p.ad.lo=true) (h1:U64 p.ad.hi) (h2:U64 p.ad.lo) (hn:(n:Int)≤widthA p.ad):AFn Tryz.prog 112 0 [.agg (preC p)] mt (.base (.bool (eqPre p (mkP p.ad n)))) mt:=by
 refine AFn.eq Tryz.func112 rfl rfl (Nat.le_of_ble_eq_true rfl) ?_
 have hm:=make_any p.ad n hv h1 h2 hn
 obtain ⟨q,hq⟩:∃ q,mkP p.ad n=q:=⟨_,rfl⟩
 rw [hq] at hm ⊢
 obtain ⟨a,l⟩:=p
 dsimp only at hp hm
 subst hp
 refine Wq<|qW 0 2 rfl<|qC rfl<|qA rfl<|Nl<|Wq<|qW 6 17 rfl<|qF rfl ty38 rfl<|qG rfl ty36 rfl (Tl rfl)<|qF rfl ty38 rfl<|qL rfl ty3 rfl<|qY rfl (hm) fok39 rfl<|qM rfl<|qX rfl<|qX rfl<|qB rfl ty38<|qS rfl ty38 (Sl rfl) rfl<|qA rfl<|Nl<|Wq<|qW 21 29 rfl<|qM rfl<|qE rfl<|qM rfl<|gG rfl rfl ty38 rfl (Tl rfl)<|gG rfl rfl ty38 rfl (Tl rfl)<|qU rfl rfl rfl (LO.eql_pre ⟨a,(n:Int)⟩ q rfl rfl rfl)<|qT rfl rfl rfl<|qA rfl<|Nl<|Wz ⟨.inl rfl,_,mt,Rc (Rt0 rfl) (Rv),aM,?_⟩
 exact ⟨rfl,rfl⟩
set_option maxHeartbeats 1000000 in
theorem last_any (p:Pre) (n:Nat) (hp:p.len=(n:Int)) (hv:validA p.ad.v6 p.ad.hi p.ad.lo=true) (h1:U64 p.ad.hi) (h2:U64 p.ad.lo) (hn:(n:Int)≤widthA p.ad):AFn Tryz.prog 30 0 [.agg (preC p)] mt (.agg (adC (mkAd .or p.ad n))) mt:=by
 refine AFn.eq Tryz.func30 rfl rfl (Nat.le_of_ble_eq_true rfl) ?_
 have hba:=bytesX_any p.ad hv h1 h2
 obtain ⟨a,l⟩:=p
 dsimp only at hp hba hn ⊢
 subst hp
 have hln:=addrL_len a
 have hv6:(((addrL a).length:Int) == 16)=a.v6:=by rw [hln];cases a.v6<;>rfl
 have hlv:(addrL a).length=4∧a.v6=false∨(addrL a).length=16∧a.v6=true:=by
  rw [hln];cases a.v6<;>simp
 have hw:widthA a=8 * ((addrL a).length:Int):=by
  unfold widthA
  rcases hlv with ⟨e1,e2⟩|⟨e1,e2⟩<;>rw [e1,e2]<;>rfl
 have hB:=addrL_isB a
 obtain ⟨b,hb⟩:∃ b,addrL a=b:=⟨_,rfl⟩
 have hmk:mkL .or a n=chgs .or b n (8 * b.length - n):=by unfold mkL;rw [hb]
 rw [hb] at hba hln hlv hw hB hv6
 have hmax:(if (0:Int) < (n:Int) then (n:Int) else 0)=(n:Int):=by split<;>omega
 refine Wq<|qW 0 2 rfl<|qC rfl<|qB rfl ty36<|Nl<|Wq<|qW 6 10 rfl<|qF rfl ty38 rfl<|qG rfl ty36 rfl (Tl rfl)<|Od rfl rfl (LO.callO (fr:=[]) rfl rfl (hba) fok90 (.cons rfl (.pure rfl) .nil) (bytesC_pure _) (by decide))<|qA rfl<|Nl<|Wq<|Wq<|qW 14 18 rfl<|qF rfl ty38 rfl<|qL rfl ty3 rfl<|Od rfl rfl (LO.max rfl rfl rfl)<|qA rfl<|Nl ?_
 rw [hmax]
 rw [show b=chgs .or b n 0 from rfl]
 rw [show (n:Int)=((n + 0:Nat):Int) from rfl]
 have hl0:=chgs_len .or b n 0
 rw [hl0]
 refine Wb<|W.rename [(0,0),(1,8),(2,1)] 3 (by decide) ?_ ?_ (W.loop_ind (α:=Nat) (fun x=>8 * b.length - n - x) 3 (fun x=>up (up (up (up mt 1 (some (.own 0 0))) 2 (some (.own 2 0))) 3 (some (.osl 1 0 b.length 1))) 4 (some (.base (.int .i64 ((n + x:Nat):Int))))) (fun x=>up (up (up mt 0 (some (preC ⟨a,(n:Int)⟩))) 1 (some (bytesC (chgs .or b n x)))) 2 (some (adC ⟨false,0,0⟩))) (fun x=>n + x≤8 * b.length) 0 (show n + 0≤8 * b.length from by omega) ?_)
 ·exact aR (aI (aI (aI aM)))
 ·exact aU (kR rfl) (aU (kP rfl (bytesC_pure _)) (aU (kR rfl) aM))
 rintro k hIA ihA
 try (dsimp only at hIA)
 try dsimp only
 have hlk:=chgs_len .or b n k
 by_cases hc:n + k < 8 * b.length
 ·have g2:decide (((n + k:Nat):Int) < 8 * (b.length:Int))=true:=decide_eq_true (by omega)
  refine Wq<|Wq<|qW 22 27 rfl<|qM rfl<|qM rfl<|Od rfl rfl (LO.len rfl rfl ty97)<|Od rfl rfl (LO.mul_in rfl rfl rfl (iW _ (by omega)))<|qK rfl<|Nl<|Wt rfl ‹_›<|Wu<|Wq<|Wb ?_
  have hq:((n + k:Nat):Int) / 8=(((n + k) / 8:Nat):Int):=by omega
  have hj:(n + k) / 8 < b.length:=by omega
  refine qW 31 43 rfl<|qM rfl<|qM rfl<|Od rfl rfl (LO.quo_in rfl rfl rfl (by omega) (by omega) (iW _ (by omega)))<|Od rfl rfl (Ia rfl rfl rfl hq ty97 ty5 hj)<|Od rfl rfl (Ld rfl rfl rfl (by_at0 (by rw [hlk];exact hj)) ty5 rfl)<|qM rfl<|Od rfl rfl (LO.rem_in rfl rfl rfl (by omega) (by omega))<|Od rfl rfl (Ci rfl rfl ty3 ty151 (IntWalk.u64_in _ (by omega)))<|Od rfl rfl (LO.shr rfl rfl rfl (by omega))<|Od rfl rfl (LO.or rfl rfl rfl)<|Od rfl rfl (Ia rfl rfl rfl hq ty97 ty5 hj)<|qS rfl ty5 (by_sp (by rw [hlk];exact hj)) rfl<|Nl ?_
  rw [show (chgs .or b n k).set ((n + k) / 8) (bitV .or .u8 (gB (chgs .or b n k) ((n + k) / 8)) ((128:Int).fdiv (2 ^ (min (((n + k:Nat):Int) % 8).toNat IntKind.u8.bits))))=chgs .or b n (k + 1) from (chgs_snoc _ _ _ _).symm]
  refine qW 47 50 rfl<|qM rfl<|qZ rfl (iW _ (by omega))<|qA rfl<|Nl ?_
  rw [show ((n + k:Nat):Int) + 1=((n + (k + 1):Nat):Int) from by omega]
  refine WL.rename [(0,0),(1,1),(2,2)] 3 (by decide) ?_ ?_ (ihA (k + 1) (show 8 * b.length - n - (k + 1) < 8 * b.length - n - k from by omega) (show n + (k + 1)≤8 * b.length from by omega))
  ·exact aR (aI (aI (aI aM)))
  ·exact aU (kR rfl) (aU (kP rfl (bytesC_pure _)) (aU (kR rfl) aM))
 ·have g2:decide (((n + k:Nat):Int) < 8 * (b.length:Int))=false:=decide_eq_false (by omega)
  refine Wq<|Wq<|qW 22 27 rfl<|qM rfl<|qM rfl<|Od rfl rfl (LO.len rfl rfl ty97)<|Od rfl rfl (LO.mul_in rfl rfl rfl (iW _ (by omega)))<|qK rfl<|Nl<|Wo rfl ‹_›<|Wx ?_
  clear ihA
  obtain rfl:k=8 * b.length - n:=by omega
  rw [show n + (8 * b.length - n)=8 * b.length from by omega]
  have hfr:=fromX_any (chgs .or b n (8 * b.length - n)) (chgs_isB _ _ _ _ hB) (by rw [hlk];omega)
  rw [hlk] at hfr
  refine Wq<|qW 54 62 rfl<|qM rfl<|Od rfl rfl (C0 (fr:=[1]) rfl rfl (hfr) fok91 (.cons rfl (.one (.osl (by decide) rfl (bytes_tk hlk) (bytesC_pure _))) .nil) rfl)<|qM rfl<|qX rfl<|qX rfl<|qB rfl ty36<|qS rfl ty36 (Sl rfl) rfl<|qA rfl<|Nl<|Wq<|qW 66 68 rfl<|qG rfl ty36 rfl (Tl rfl)<|qS rfl ty36 (Sl rfl) rfl<|Nl<|Wz ⟨.inl rfl,_,mt,(Rc (Ra0 rfl rfl ty36 rfl (Tl rfl)) Rv),aM,?_⟩
  exact ⟨by unfold mkAd;rw [hmk,hv6];rfl,rfl⟩
def lan4:Pre:=⟨⟨false,0,3221225984⟩,24⟩
def lan6:Pre:=⟨⟨true,2306139568115548160,0⟩,64⟩
def cmpI (x y:Int):Int:=if x < y then -1 else if y < x then 1 else 0
def orI (x y:Int):Int:=if x=0 then y else x
def famA (a:Ad):Int:=if a.v6 then 1 else 0
def cmpA (a b:Ad):Int:=orI (cmpI (famA a) (famA b)) (orI (cmpI a.hi b.hi) (cmpI a.lo b.lo))
def cmpP (p q:Pre):Int:=orI (cmpA p.ad q.ad) (cmpI p.len q.len)
structure ObjR where
 p:Pre
 mx:Int
 asn:Int
def objC (o:ObjR):List AV:=preC o.p++[.base (.int .i64 o.mx),.base (.int .i64 o.asn)]
def objsC (l:List ObjR):List AV:=l.flatMap objC
theorem andNotU (x j:Nat) (hx:x < 2 ^ 64) (hj:j≤64):bitV .andNot .u64 (x:Int) ((2 ^ j - 1:Nat):Int)=((x / 2 ^ j * 2 ^ j:Nat):Int):=by
 have e1:(BitVec.ofInt 64 (x:Int)).toNat=x:=by rw [BitVec.ofInt_natCast,BitVec.toNat_ofNat];exact Nat.mod_eq_of_lt hx
 have hm:2 ^ j≤2 ^ 64:=Nat.pow_le_pow_right (by decide) hj
 have e2:(BitVec.ofInt 64 ((2 ^ j - 1:Nat):Int)).toNat=2 ^ j - 1:=by rw [BitVec.ofInt_natCast,BitVec.toNat_ofNat];exact Nat.mod_eq_of_lt (by have:=Nat.two_pow_pos j;omega)
 have key:(BitVec.ofInt 64 (x:Int) &&& ~~~BitVec.ofInt 64 ((2 ^ j - 1:Nat):Int)).toNat=x / 2 ^ j * 2 ^ j:=by
  refine Nat.eq_of_testBit_eq fun i=>?_
  rw [← Nat.shiftRight_eq_div_pow,← Nat.shiftLeft_eq,Nat.testBit_shiftLeft,Nat.testBit_shiftRight]
  rw [BitVec.testBit_toNat,BitVec.getLsbD_and,BitVec.getLsbD_not,← BitVec.testBit_toNat,← BitVec.testBit_toNat,e1,e2,Nat.testBit_two_pow_sub_one]
  by_cases h1:j≤i
  ·rw [show j + (i - j)=i from by omega]
   by_cases h2:i < 64
   ·simp [h1,h2]
   ·rw [Nat.testBit_lt_two_pow (Nat.lt_of_lt_of_le hx (Nat.pow_le_pow_right (by decide) (by omega)))];simp
  ·simp [h1];omega
 show IntKind.u64.wrap ((BitVec.ofInt 64 (x:Int) &&& ~~~BitVec.ofInt 64 ((2 ^ j - 1:Nat):Int)).toNat:Int)=_
 rw [key,IntKind.wrap_u64]
 have:=Nat.div_mul_le_self x (2 ^ j)
 omega
def mskH (k:Nat):Int:=((2 ^ (k - 64) - 1:Nat):Int)
def mskL (k:Nat):Int:=((2 ^ (min k 64) - 1:Nat):Int)
def clrA (a:Ad) (k:Nat):Ad:=⟨a.v6,bitV .andNot .u64 a.hi (mskH k),bitV .andNot .u64 a.lo (mskL k)⟩
theorem clr_id {a:Ad} {k:Nat} (h1:U64 a.hi) (h2:U64 a.lo) (hk:k≤128) (h:(a.hi.toNat * 2 ^ 64 + a.lo.toNat) % 2 ^ k=0):clrA a k=a:=by
 obtain ⟨v,hi,lo⟩:=a
 obtain ⟨x,rfl⟩:=Int.eq_ofNat_of_zero_le h1.1
 obtain ⟨y,rfl⟩:=Int.eq_ofNat_of_zero_le h2.1
 simp only [Int.toNat_natCast] at h
 have hx:x < 2 ^ 64:=by have:=h1.2;simp only at this;omega
 have hy:y < 2 ^ 64:=by have:=h2.2;simp only at this;omega
 unfold clrA mskH mskL
 simp only
 have key:x % 2 ^ (k - 64)=0∧y % 2 ^ (min k 64)=0:=by
  rcases Nat.le_total k 64 with hk1|hk1
  ·rw [show k - 64=0 from by omega,Nat.min_eq_left hk1]
   refine ⟨Nat.mod_one _,?_⟩
   have:x * 2 ^ 64=2 ^ k * (x * 2 ^ (64 - k)):=by rw [Nat.mul_comm (2 ^ k),Nat.mul_assoc,← Nat.pow_add,show 64 - k + k=64 from by omega]
   rw [this,Nat.mul_add_mod] at h
   exact h
  ·rw [Nat.min_eq_right hk1]
   have e:2 ^ k=2 ^ 64 * 2 ^ (k - 64):=by rw [← Nat.pow_add,show 64 + (k - 64)=k from by omega]
   have hy0:y=0:=by
    have:(x * 2 ^ 64 + y) % 2 ^ 64=0:=by
     have hd:2 ^ 64 ∣ 2 ^ k:=⟨_,e⟩
     exact Nat.mod_eq_zero_of_dvd (Nat.dvd_trans hd (Nat.dvd_of_mod_eq_zero h))
    omega
   subst hy0
   refine ⟨?_,by simp⟩
   rw [e,Nat.add_zero,Nat.mul_comm x,Nat.mul_mod_mul_left] at h
   have hp:0 < 2 ^ 64:=by decide
   rcases Nat.mul_eq_zero.1 h with h|h
   ·omega
   ·exact h
 rw [andNotU x _ hx (by omega),andNotU y _ hy (by omega)]
 have e1:x / 2 ^ (k - 64) * 2 ^ (k - 64)=x:=Nat.div_mul_cancel (Nat.dvd_of_mod_eq_zero key.1)
 have e2:y / 2 ^ (min k 64) * 2 ^ (min k 64)=y:=Nat.div_mul_cancel (Nat.dvd_of_mod_eq_zero key.2)
 rw [e1,e2]
def valI (l:List Int):Int:=l.foldl (fun a x=>a * 256 + x) 0
theorem valI_from (l:List Int):∀ a:Int,l.foldl (fun a x=>a * 256 + x) a=a * 256 ^ l.length + valI l:=by
 unfold valI
 induction l with
 | nil=>intro a;simp
 | cons x l ih =>
  intro a
  rw [List.foldl_cons,ih,List.foldl_cons,ih (0 * 256 + x),List.length_cons,Int.pow_succ]
  have e1:(a * 256 + x) * 256 ^ l.length=a * (256 ^ l.length * 256) + x * 256 ^ l.length:=by
   rw [Int.add_mul,Int.mul_assoc,Int.mul_comm 256]
  rw [e1]
  simp only [Int.zero_mul,Int.zero_add]
  omega
theorem valI_app (a b:List Int):valI (a++b)=valI a * 256 ^ b.length + valI b:=by
 show (a++b).foldl _ 0=_
 rw [List.foldl_append,valI_from]
 rfl
theorem valI_bd {l:List Int} (h:IsB l):0≤valI l∧valI l < 256 ^ l.length:=by
 rw [← List.reverse_reverse l] at h ⊢
 generalize l.reverse=r at *
 induction r with
 | nil=>simp [valI]
 | cons x r ih =>
  have hx:0≤x∧x≤255:=h x (by simp)
  have ih:=ih fun y hy=>h y (by rw [List.reverse_cons];exact List.mem_append_left _ hy)
  rw [List.reverse_cons,valI_app,List.length_append,List.length_singleton,Int.pow_succ (256:Int) r.reverse.length]
  have e:valI [x]=x:=by simp [valI]
  rw [e]
  have:(256:Int) ^ 1=256:=by decide
  rw [this]
  omega
theorem fb_valI {l:List Int} (hB:IsB l) (hl:l.length≤16):∀ k,k≤l.length→(fb (l.take k)).1 * 18446744073709551616 + (fb (l.take k)).2=valI (l.take k):=by
 intro k
 induction k with
 | zero=>intro _;simp [fb,valI]
 | succ k ih =>
  intro hk
  have ihk:=ih (by omega)
  rw [fb_snoc _ _ (by omega)]
  obtain ⟨b1,b2⟩:=fb_bd (l.take k)
  have hx:0≤gB l k∧gB l k≤255:=hB.at k
  rw [fbStep_val b1 b2 hx,ihk,List.take_succ_eq_append_getElem (by omega),valI_app]
  have e:valI [l[k]]=gB l k:=by simp [valI,gB,List.getD,show k < l.length by omega]
  rw [e]
  have hbk:IsB (l.take (k + 1)):=fun y hy=>hB y (List.mem_of_mem_take hy)
  have hb:=valI_bd hbk
  rw [List.take_succ_eq_append_getElem (by omega),valI_app,e] at hb
  have hle:=pow_le_big (show (l.take k++[l[k]]).length≤16 by simp;omega)
  simp only [List.length_singleton] at hb ⊢
  have h1:(256:Int) ^ 1=256:=by decide
  rw [h1] at hb ⊢
  omega
theorem fb_full {l:List Int} (hB:IsB l) (hl:l.length≤16):(fb l).1 * 18446744073709551616 + (fb l).2=valI l:=by
 have:=fb_valI hB hl l.length (Nat.le_refl _)
 rwa [List.take_length] at this
def bitN (x:Int) (s:Nat):Int:=x / 2 ^ s % 2
theorem clr_bit:∀ (x:Fin 256) (t:Fin 8),bitN (bitV .andNot .u8 (x.val:Int) ((128:Int).fdiv (2 ^ t.val))) (7 - t.val)=0∧∀ s:Fin 8,bitN (x.val:Int) s.val=0→bitN (bitV .andNot .u8 (x.val:Int) ((128:Int).fdiv (2 ^ t.val))) s.val=0:=by decide +kernel
theorem low_zero:∀ (x:Fin 256) (q:Fin 9),(∀ s:Fin 8,s.val < q.val→bitN (x.val:Int) s.val=0)→(x.val:Int) % 2 ^ q.val=0:=by decide +kernel
theorem bitAt_eq (i:Nat):bitAt i=(128:Int).fdiv (2 ^ (i % 8)):=by
 unfold bitAt
 have:min ((i:Int) % 8).toNat IntKind.u8.bits=i % 8:=by
  have h8:IntKind.u8.bits=8:=rfl
  rw [h8]
  omega
 rw [this]
def bitL (l:List Int) (i:Nat):Int:=bitN (gB l (i / 8)) (7 - i % 8)
theorem gB_set1 {l:List Int} {k:Nat} {v:Int} (h:k < l.length) (j:Nat):gB (l.set k v) j=if j=k then v else gB l j:=by
 unfold gB
 by_cases e:j=k
 ·subst e;simp [List.getD,h]
 ·rw [if_neg e];simp [List.getD,List.getElem?_set_ne (Ne.symm e)]
theorem clr_step {l:List Int} (hB:IsB l) {i:Nat} (hi:i / 8 < l.length):bitL (chgL .andNot l i) i=0∧∀ j,bitL l j=0→bitL (chgL .andNot l i) j=0:=by
 have hx:=hB.at (i / 8)
 obtain ⟨x,hxe⟩:∃ x:Fin 256,gB l (i / 8)=(x.val:Int):=⟨⟨(gB l (i / 8)).toNat,by omega⟩,by simp only;omega⟩
 have key:=clr_bit x ⟨i % 8,by omega⟩
 simp only at key
 unfold chgL
 rw [hxe,bitAt_eq]
 refine ⟨?_,fun j hj=>?_⟩
 ·unfold bitL
  rw [gB_set1 hi,if_pos rfl]
  exact key.1
 ·unfold bitL at hj ⊢
  rw [gB_set1 hi]
  split
  ·rename_i e
   rw [e,hxe] at hj
   exact key.2 ⟨7 - j % 8,by omega⟩ hj
  ·exact hj
theorem clr_all {l:List Int} (hB:IsB l) (n:Nat):∀ k,n + k≤8 * l.length→∀ j,n≤j→j < n + k→bitL (chgs .andNot l n k) j=0:=by
 intro k
 induction k with
 | zero=>intro _ j h1 h2;omega
 | succ k ih =>
  intro hk j h1 h2
  rw [chgs_snoc]
  have hlen:=chgs_len .andNot l n k
  obtain ⟨s1,s2⟩:=clr_step (chgs_isB .andNot l n k hB) (i:=n + k) (by rw [hlen];omega)
  by_cases e:j=n + k
  ·rw [e];exact s1
  ·exact s2 j (ih (by omega) j h1 (by omega))
theorem valI_zeros:∀ l:List Int,(∀ x∈l,x=0)→valI l=0:=by
 intro l h
 have:∀ l:List Int,(∀ x∈l,x=0)→l.foldl (fun a x=>a * 256 + x) 0=0:=by
  intro l
  induction l with
  | nil=>intro _;rfl
  | cons x l ih =>
   intro h
   rw [List.foldl_cons,h x (by simp)]
   exact ih fun y hy=>h y (by simp [hy])
 exact this l h
theorem low_val {l:List Int} (hB:IsB l) {n:Nat} (hn:n≤8 * l.length) (h:∀ j,n≤j→j < 8 * l.length→bitL l j=0):∃ z:Int,valI l=z * 2 ^ (8 * l.length - n):=by
 have hbyte:∀ i,i < l.length→∀ q:Nat,q≤8→n≤8 * i + 8 - q→gB l i % 2 ^ q=0:=fun i hi q hq hnq=>by
  have hx:=hB.at i
  obtain ⟨x,hxe⟩:∃ x:Fin 256,gB l i=(x.val:Int):=⟨⟨(gB l i).toNat,by omega⟩,by simp only;omega⟩
  rw [hxe]
  refine low_zero x ⟨q,by omega⟩ fun s hs=>?_
  have hs8:=s.isLt
  simp only at hs
  have:=h (8 * i + 7 - s.val) (by omega) (by omega)
  unfold bitL at this
  rw [show (8 * i + 7 - s.val) / 8=i from by omega,show 7 - (8 * i + 7 - s.val) % 8=s.val from by omega,hxe] at this
  exact this
 by_cases hm:n / 8 < l.length
 ·have hsplit:l=l.take (n / 8)++([l[n / 8]]++l.drop (n / 8 + 1)):=by
   rw [List.singleton_append,← List.drop_eq_getElem_cons hm,List.take_append_drop]
  have hz:valI (l.drop (n / 8 + 1))=0:=valI_zeros _ fun x hx=>by
   obtain ⟨i,hi⟩:=List.getElem?_of_mem hx
   rw [List.getElem?_drop] at hi
   obtain ⟨hil,hi⟩:=List.getElem?_eq_some_iff.1 hi
   have:=hbyte (n / 8 + 1 + i) hil 8 (Nat.le_refl _) (by omega)
   have hb:=hB.at (n / 8 + 1 + i)
   have e:gB l (n / 8 + 1 + i)=x:=by simp [gB,List.getD,hil,hi]
   rw [e] at this hb
   omega
  have hx0:=hbyte (n / 8) hm (8 * (n / 8) + 8 - n) (by omega) (by omega)
  have e:gB l (n / 8)=l[n / 8]:=by simp [gB,List.getD,hm]
  rw [e] at hx0
  obtain ⟨c,hc⟩:=Int.dvd_of_emod_eq_zero hx0
  obtain ⟨q,hq⟩:∃ q,q=8 * (n / 8) + 8 - n:=⟨_,rfl⟩
  rw [← hq] at hc
  have hq8:q≤8:=by omega
  have hdl:(l.drop (n / 8 + 1)).length=l.length - (n / 8 + 1):=by simp
  have hv:valI l=(valI (l.take (n / 8)) * 256 + l[n / 8]) * 256 ^ (l.length - (n / 8 + 1)):=by
   conv=>lhs;rw [hsplit]
   rw [valI_app,valI_app,hz,List.length_append,hdl]
   have e1:valI [l[n / 8]]=l[n / 8]:=by simp [valI]
   rw [e1,List.length_singleton,Int.pow_add,show (256:Int) ^ 1=256 from by decide,Int.add_zero,Int.add_mul,Int.mul_assoc]
  have h256:(256:Int) ^ (l.length - (n / 8 + 1))=2 ^ (8 * (l.length - (n / 8 + 1))):=by
   rw [show (256:Int)=2 ^ 8 from by decide,← Int.pow_mul]
  have h2q:(256:Int)=2 ^ (8 - q) * 2 ^ q:=by
   rw [← Int.pow_add,show 8 - q + q=8 from by omega];decide
  refine ⟨valI (l.take (n / 8)) * 2 ^ (8 - q) + c,?_⟩
  rw [hv,h256,hc]
  have e3:valI (l.take (n / 8)) * 256 + 2 ^ q * c=(valI (l.take (n / 8)) * 2 ^ (8 - q) + c) * 2 ^ q:=by
   rw [Int.add_mul,Int.mul_assoc,← h2q,Int.mul_comm c]
  rw [e3,Int.mul_assoc,← Int.pow_add]
  congr 2
  omega
 ·have:8 * l.length - n=0:=by omega
  rw [this]
  exact ⟨valI l,by simp⟩
theorem mk_clr {a:Ad} {n:Nat} (hn:(n:Int)≤widthA a):clrA (mkP a n).ad ((widthA a).toNat - n)=(mkP a n).ad:=by
 have hln:=addrL_len a
 have hw:widthA a=8 * ((addrL a).length:Int):=by
  unfold widthA
  rw [hln]
  cases a.v6<;>rfl
 have hl16:(addrL a).length≤16:=by rw [hln];cases a.v6<;>simp
 have hB:IsB (mkL .andNot a n):=chgs_isB _ _ _ _ (addrL_isB a)
 have hlen:(mkL .andNot a n).length=(addrL a).length:=chgs_len _ _ _ _
 have hf:=fb_full hB (by omega)
 obtain ⟨b1,b2⟩:=fb_bd (mkL .andNot a n)
 have hbits:∀ j,n≤j→j < 8 * (mkL .andNot a n).length→bitL (mkL .andNot a n) j=0:=fun j h1 h2=>clr_all (addrL_isB a) n (8 * (addrL a).length - n) (by omega) j h1 (by rw [hlen] at h2;omega)
 obtain ⟨z,hz⟩:=low_val hB (n:=n) (by rw [hlen];omega) hbits
 have hk:(widthA a).toNat - n=8 * (mkL .andNot a n).length - n:=by rw [hlen];omega
 refine clr_id (a:=(mkP a n).ad) b1 b2 (by rw [hk,hlen];omega) ?_
 rw [hk]
 generalize 8 * (mkL .andNot a n).length - n=k at *
 show ((fb (mkL .andNot a n)).1.toNat * 2 ^ 64 + (fb (mkL .andNot a n)).2.toNat) % 2 ^ k=0
 unfold U64 at b1 b2
 have e:(((fb (mkL .andNot a n)).1.toNat * 2 ^ 64 + (fb (mkL .andNot a n)).2.toNat:Nat):Int)=z * 2 ^ k:=by
  rw [← hz,← hf]
  omega
 have h2:((2 ^ k:Nat):Int)=(2:Int) ^ k:=by simp
 have:(2 ^ k:Nat) ∣ (fb (mkL .andNot a n)).1.toNat * 2 ^ 64 + (fb (mkL .andNot a n)).2.toNat:=by
  rw [← Int.natCast_dvd_natCast,e,h2]
  exact ⟨z,Int.mul_comm _ _⟩
 exact Nat.mod_eq_zero_of_dvd this
theorem pwidth_any (a:Ad):AFn Tryz.prog 118 0 [.agg (adC a)] mt (.base (.int .i64 (widthA a))) mt:=by
 refine AFn.eq Tryz.func118 rfl rfl (Nat.le_of_ble_eq_true rfl) ?_
 unfold adC
 refine Wq<|qW 0 2 rfl<|qC rfl<|qA rfl<|Nl<|Wq<|Wq<|qW 6 8 rfl<|qF rfl ty36 rfl<|qL rfl ty4 rfl<|Nl<|W.cond rfl (fun hb1=>?_) (fun hb1=>?_)
 ·
  try (have hb1p:=of_decide_eq_true hb1)
  try (have hb1q:=eq_of_beq hb1)
  refine Wq<|qW 12 13 rfl<|qA rfl<|Nl<|Wz ⟨.inl rfl,_,mt,Rc (Rt0 rfl) (Rv),aM,?_⟩
  exact ⟨by (simp_all [widthA,retOf])<;>omega,rfl⟩
 ·
  try (have hb1p:=of_decide_eq_false hb1)
  try (have hb1q:=ne_of_beq_false hb1)
  refine Wu<|Wq<|qW 17 18 rfl<|qA rfl<|Nl<|Wz ⟨.inl rfl,_,mt,Rc (Rt0 rfl) (Rv),aM,?_⟩
  exact ⟨by (simp_all [widthA,retOf])<;>omega,rfl⟩
theorem family_any (a:Ad):AFn Tryz.prog 137 0 [.agg (adC a)] mt (.base (.int .i64 (famA a))) mt:=by
 refine AFn.eq Tryz.func137 rfl rfl (Nat.le_of_ble_eq_true rfl) ?_
 unfold adC
 refine Wq<|qW 0 2 rfl<|qC rfl<|qA rfl<|Nl<|Wq<|Wq<|qW 6 8 rfl<|qF rfl ty36 rfl<|qL rfl ty4 rfl<|Nl<|W.cond rfl (fun hb2=>?_) (fun hb2=>?_)
 ·
  try (have hb2p:=of_decide_eq_true hb2)
  try (have hb2q:=eq_of_beq hb2)
  refine Wq<|qW 12 13 rfl<|qA rfl<|Nl<|Wz ⟨.inl rfl,_,mt,Rc (Rt0 rfl) (Rv),aM,?_⟩
  exact ⟨by (simp_all [famA,retOf])<;>omega,rfl⟩
 ·
  try (have hb2p:=of_decide_eq_false hb2)
  try (have hb2q:=ne_of_beq_false hb2)
  refine Wu<|Wq<|qW 17 18 rfl<|qA rfl<|Nl<|Wz ⟨.inl rfl,_,mt,Rc (Rt0 rfl) (Rv),aM,?_⟩
  exact ⟨by (simp_all [famA,retOf])<;>omega,rfl⟩
theorem isNaNi_any (x:Int):AFn Tryz.prog 197 0 [.base (.int .i64 x)] mt (.base (.bool false)) mt:=by
 refine AFn.eq Tryz.func197 rfl rfl (Nat.le_of_ble_eq_true rfl) ?_
 have e:(x != x)=false:=by simp
 refine Wq<|qW 0 1 rfl<|qA rfl<|Nl<|Wq<|qW 5 9 rfl<|qM rfl<|qM rfl<|qN rfl<|qA rfl<|Nl<|Wz ⟨.inl rfl,_,mt,Rc (Rt0 rfl) (Rv),aM,?_⟩
 exact ⟨by rw [e];rfl,rfl⟩
theorem isNaNu_any (x:Int):AFn Tryz.prog 198 0 [.base (.int .u64 x)] mt (.base (.bool false)) mt:=by
 refine AFn.eq Tryz.func198 rfl rfl (Nat.le_of_ble_eq_true rfl) ?_
 have e:(x != x)=false:=by simp
 refine Wq<|qW 0 1 rfl<|qA rfl<|Nl<|Wq<|qW 5 9 rfl<|qM rfl<|qM rfl<|qN rfl<|qA rfl<|Nl<|Wz ⟨.inl rfl,_,mt,Rc (Rt0 rfl) (Rv),aM,?_⟩
 exact ⟨by rw [e];rfl,rfl⟩
theorem cmpi_any (x y:Int):AFn Tryz.prog 136 0 [.base (.int .i64 x),.base (.int .i64 y)] mt (.base (.int .i64 (cmpI x y))) mt:=by
 refine AFn.eq Tryz.func136 rfl rfl (Nat.le_of_ble_eq_true rfl) ?_
 have n1:=isNaNi_any x
 have n2:=isNaNi_any y
 unfold cmpI
 refine Wq<|qW 0 1 rfl<|qA rfl<|Nl<|Wq<|qW 5 8 rfl<|qM rfl<|qY rfl (n1) fok197 rfl<|qA rfl<|Nl<|Wq<|qW 12 15 rfl<|qM rfl<|qY rfl (n2) fok197 rfl<|qA rfl<|Nl<|Wq<|Wq<|qW 19 20 rfl<|qM rfl<|Nl<|Wo rfl rfl<|Wu<|Wq<|Wq<|qW 39 40 rfl<|qM rfl<|Nl<|Wo rfl rfl<|Wu ?_
 by_cases h1:x < y
 ·have g1:decide (x < y)=true:=decide_eq_true h1
  refine Wq<|Wq<|qW 49 52 rfl<|qM rfl<|qM rfl<|qK rfl<|Nl<|Wt rfl ‹_›<|Wq<|qW 56 57 rfl<|qA rfl<|Nl<|Wz ⟨.inl rfl,_,mt,Rc (Rt0 rfl) (Rv),aM,?_⟩
  exact ⟨by rw [if_pos h1];rfl,rfl⟩
 ·have g1:decide (x < y)=false:=decide_eq_false h1
  refine Wq<|Wq<|qW 49 52 rfl<|qM rfl<|qM rfl<|qK rfl<|Nl<|Wo rfl ‹_›<|Wu ?_
  by_cases h2:y < x
  ·have g2:decide (y < x)=true:=decide_eq_true h2
   refine Wq<|Wq<|qW 61 64 rfl<|qM rfl<|qM rfl<|qGt rfl<|Nl<|Wt rfl ‹_›<|Wq<|qW 68 69 rfl<|qA rfl<|Nl<|Wz ⟨.inl rfl,_,mt,Rc (Rt0 rfl) (Rv),aM,?_⟩
   exact ⟨by rw [if_neg h1,if_pos h2];rfl,rfl⟩
  ·have g2:decide (y < x)=false:=decide_eq_false h2
   refine Wq<|Wq<|qW 61 64 rfl<|qM rfl<|qM rfl<|qGt rfl<|Nl<|Wo rfl ‹_›<|Wu<|Wq<|qW 73 74 rfl<|qA rfl<|Nl<|Wz ⟨.inl rfl,_,mt,Rc (Rt0 rfl) (Rv),aM,?_⟩
   exact ⟨by rw [if_neg h1,if_neg h2];rfl,rfl⟩
theorem cmpu_any (x y:Int):AFn Tryz.prog 138 0 [.base (.int .u64 x),.base (.int .u64 y)] mt (.base (.int .i64 (cmpI x y))) mt:=by
 refine AFn.eq Tryz.func138 rfl rfl (Nat.le_of_ble_eq_true rfl) ?_
 have n1:=isNaNu_any x
 have n2:=isNaNu_any y
 unfold cmpI
 refine Wq<|qW 0 1 rfl<|qA rfl<|Nl<|Wq<|qW 5 8 rfl<|qM rfl<|qY rfl (n1) fok198 rfl<|qA rfl<|Nl<|Wq<|qW 12 15 rfl<|qM rfl<|qY rfl (n2) fok198 rfl<|qA rfl<|Nl<|Wq<|Wq<|qW 19 20 rfl<|qM rfl<|Nl<|Wo rfl rfl<|Wu<|Wq<|Wq<|qW 39 40 rfl<|qM rfl<|Nl<|Wo rfl rfl<|Wu ?_
 by_cases h1:x < y
 ·have g1:decide (x < y)=true:=decide_eq_true h1
  refine Wq<|Wq<|qW 49 52 rfl<|qM rfl<|qM rfl<|qK rfl<|Nl<|Wt rfl ‹_›<|Wq<|qW 56 57 rfl<|qA rfl<|Nl<|Wz ⟨.inl rfl,_,mt,Rc (Rt0 rfl) (Rv),aM,?_⟩
  exact ⟨by rw [if_pos h1];rfl,rfl⟩
 ·have g1:decide (x < y)=false:=decide_eq_false h1
  refine Wq<|Wq<|qW 49 52 rfl<|qM rfl<|qM rfl<|qK rfl<|Nl<|Wo rfl ‹_›<|Wu ?_
  by_cases h2:y < x
  ·have g2:decide (y < x)=true:=decide_eq_true h2
   refine Wq<|Wq<|qW 61 64 rfl<|qM rfl<|qM rfl<|qGt rfl<|Nl<|Wt rfl ‹_›<|Wq<|qW 68 69 rfl<|qA rfl<|Nl<|Wz ⟨.inl rfl,_,mt,Rc (Rt0 rfl) (Rv),aM,?_⟩
   exact ⟨by rw [if_neg h1,if_pos h2];rfl,rfl⟩
  ·have g2:decide (y < x)=false:=decide_eq_false h2
   refine Wq<|Wq<|qW 61 64 rfl<|qM rfl<|qM rfl<|qGt rfl<|Nl<|Wo rfl ‹_›<|Wu<|Wq<|qW 73 74 rfl<|qA rfl<|Nl<|Wz ⟨.inl rfl,_,mt,Rc (Rt0 rfl) (Rv),aM,?_⟩
   exact ⟨by rw [if_neg h1,if_neg h2];rfl,rfl⟩
theorem shl1:∀ j:Fin 65,IntKind.u64.wrap (IntKind.u64.wrap (1 * 2 ^ min ((j.val:Int)).toNat IntKind.u64.bits) - 1)=((2 ^ j.val - 1:Nat):Int):=by decide +kernel
theorem masks_any (k:Nat) (hk:k≤128):AFn Tryz.prog 124 0 [.base (.int .i64 (k:Int))] mt (.tup [.base (.int .u64 (mskH k)),.base (.int .u64 (mskL k))]) mt:=by
 refine AFn.eq Tryz.func124 rfl rfl (Nat.le_of_ble_eq_true rfl) ?_
 by_cases hc:64 < k
 ·have g1:decide ((k:Int) > 64)=true:=decide_eq_true (by omega)
  refine Wq<|qW 0 2 rfl<|qA rfl<|qA rfl<|Nl<|Wq<|Wq<|qW 6 8 rfl<|qM rfl<|qGt rfl<|Nl<|Wt rfl ‹_›<|Wq<|qW 12 19 rfl<|qM rfl<|Od rfl rfl (LO.sub_in rfl rfl rfl (iW _ (by omega)))<|Od rfl rfl (Ci rfl rfl ty3 ty151 (IntWalk.u64_in _ (by omega)))<|Od rfl rfl (LO.shl rfl rfl rfl (by omega))<|Od rfl rfl (LO.sub rfl rfl rfl)<|qA rfl<|qA rfl<|Nl<|Wz ⟨.inl rfl,_,mt,(Rc (Rt0 rfl) (Rc (Rt0 rfl) Rv)),aM,?_⟩
  have e:=shl1 ⟨k - 64,by omega⟩
  simp only at e
  refine ⟨?_,rfl⟩
  rw [show (k:Int) - 64=((k - 64:Nat):Int) from by omega,e]
  unfold mskH mskL
  rw [Nat.min_eq_right (by omega)]
  rfl
 ·have g1:decide ((k:Int) > 64)=false:=decide_eq_false (by omega)
  refine Wq<|qW 0 2 rfl<|qA rfl<|qA rfl<|Nl<|Wq<|Wq<|qW 6 8 rfl<|qM rfl<|qGt rfl<|Nl<|Wo rfl ‹_›<|Wu<|Wq<|qW 23 29 rfl<|qM rfl<|Od rfl rfl (Ci rfl rfl ty3 ty151 (IntWalk.u64_in _ (by omega)))<|Od rfl rfl (LO.shl rfl rfl rfl (by omega))<|Od rfl rfl (LO.sub rfl rfl rfl)<|qA rfl<|qA rfl<|Nl<|Wz ⟨.inl rfl,_,mt,(Rc (Rt0 rfl) (Rc (Rt0 rfl) Rv)),aM,?_⟩
  have e:=shl1 ⟨k,by omega⟩
  simp only at e
  refine ⟨?_,rfl⟩
  rw [e]
  unfold mskH mskL
  rw [Nat.min_eq_left (by omega),show k - 64=0 from by omega]
  rfl
theorem first_any (a:Ad) (n:Nat) (hn:(n:Int)≤widthA a):AFn Tryz.prog 119 0 [.agg (adC a),.base (.int .i64 (n:Int))] mt (.agg (adC (clrA a ((widthA a).toNat - n)))) mt:=by
 refine AFn.eq Tryz.func119 rfl rfl (Nat.le_of_ble_eq_true rfl) ?_
 have hw:=pwidth_any a
 have hb:widthA a=128∨widthA a=32:=by unfold widthA;cases a.v6<;>simp
 obtain ⟨k,hk⟩:∃ k:Nat,widthA a - n=(k:Int):=⟨(widthA a - n).toNat,by omega⟩
 have e:(widthA a).toNat - n=k:=by omega
 rw [e]
 obtain ⟨wd,hwd⟩:∃ wd,widthA a=wd:=⟨_,rfl⟩
 rw [hwd] at hw hk hb hn
 have hm:=masks_any k (by omega)
 unfold adC at hw ⊢
 refine Wq<|qW 0 2 rfl<|qC rfl<|qB rfl ty36<|Nl<|Wq<|qW 6 16 rfl<|qG rfl ty36 rfl (Tl rfl)<|qY rfl (hw) fok118 rfl<|qM rfl<|Od rfl rfl (LO.sub_in rfl rfl rfl (iW _ (by omega))) ?_
 rw [hk]
 refine qY rfl (hm) fok124 rfl<|qM rfl<|qX rfl<|qX rfl<|qA rfl<|qA rfl<|Nl<|Wq<|qW 20 26 rfl<|qF rfl ty36 rfl<|qL rfl ty34 rfl<|qM rfl<|Od rfl rfl (LO.andNot rfl rfl rfl)<|qF rfl ty36 rfl<|qS rfl ty34 (Sl rfl) rfl<|Nl<|Wq<|qW 30 36 rfl<|qF rfl ty36 rfl<|qL rfl ty34 rfl<|qM rfl<|Od rfl rfl (LO.andNot rfl rfl rfl)<|qF rfl ty36 rfl<|qS rfl ty34 (Sl rfl) rfl<|Nl<|Wq<|qW 40 42 rfl<|qG rfl ty36 rfl (Tl rfl)<|qS rfl ty36 (Sl rfl) rfl<|Nl<|Wz ⟨.inl rfl,_,mt,(Rc (Ra0 rfl rfl ty36 rfl (Tl rfl)) Rv),aM,?_⟩
 exact ⟨rfl,rfl⟩
def nmC (l:List Int):List AV:=l.map fun z=>.base (.int .i64 z)
def orL:List Int→Int
 | []=>0
 | x::l=>orI x (orL l)
theorem nm_drop {l:List Int} {k:Nat} (h:k < l.length):∃ x,(nmC l)[k * 1]?=some (.base (.int .i64 x))∧l.drop k=x::l.drop (k + 1):=by
 refine ⟨l[k],by simp [nmC,h],?_⟩
 rw [List.drop_eq_getElem_cons h]
theorem or_any (l:List Int) (hl:l.length≤1000):AFn Tryz.prog 135 0 [.isl (nmC l) l.length] mt (.base (.int .i64 (orL l))) mt:=by
 refine AFn.eq Tryz.func135 rfl rfl (Nat.le_of_ble_eq_true rfl)<|Wq<|qW 0 1 rfl<|qA rfl<|Nl<|Wq<|qW 5 6 rfl<|qA rfl<|Nl<|Wq<|Wq<|qW 10 13 rfl<|qM rfl<|qH rfl ty22<|qM rfl<|Nl<|Wb<|W.loop_keep (α:=Nat) (fun x=>l.length - x) 0 (fun x=>[(8,.base (.int .i64 (x:Int)))]) (fun x=>mt) (fun x=>x≤l.length∧orL (l.drop x)=orL l) 0 [] (.cons (t:=3) rfl (by exact .inl rfl) (.cons (t:=6) rfl (by exact .inl rfl) (.cons (t:=7) rfl (by exact .inl rfl) .nil))) (show 0≤l.length∧orL (l.drop 0)=orL l from ⟨Nat.zero_le _,rfl⟩) (by decide) ?_ ?_ ?_
 ·exact lC (lR rfl) lN
 ·exact aM
 rintro k hIA ihA
 try (dsimp only at hIA)
 try dsimp only [baseT,List.cons_append,List.nil_append]
 obtain ⟨hk,ho⟩:=hIA
 by_cases hc:k < l.length
 ·have g1:decide ((k:Int) < (l.length:Int))=true:=decide_eq_true (by omega)
  obtain ⟨x,hx,hd⟩:=nm_drop hc
  have hkk:(k:Int) + 1=((k + 1:Nat):Int):=by omega
  rw [hd] at ho
  refine Wq<|qW 17 18 rfl<|qK rfl<|Nl<|Wq<|Wt rfl ‹_›<|Wu<|Wq<|Wb<|Wq<|qW 22 25 rfl<|qJ rfl rfl ty22 ty3 (by omega)<|Od rfl rfl (Li rfl rfl hx ty3 rfl)<|qA rfl<|Nl ?_
  by_cases h0:x=0
  ·have g2:(x != 0)=false:=by simp [h0]
   have ho2:orL (l.drop (k + 1))=orL l:=by rw [← ho,h0];rfl
   refine Wq<|qW 29 32 rfl<|qM rfl<|qM rfl<|qN rfl<|Nl<|Wo rfl ‹_›<|Wu<|qW 42 44 rfl<|qZ rfl (iW _ (by omega))<|qM rfl<|Nl ?_
   rw [hkk]
   refine WL.renameL [] 0 (by decide) ?_ ?_ (ihA (k + 1) (show l.length - (k + 1) < l.length - k from by omega) (show (k + 1)≤l.length∧orL (l.drop (k + 1))=orL l from ⟨by omega,ho2⟩))
   ·exact lC (lR rfl) (lC (lR rfl) (lC (lR rfl) (lC (lR rfl) lN)))
   ·exact aM
  ·have g2:(x != 0)=true:=by simp [h0]
   have ho2:orL l=x:=by rw [← ho];show orI x _=x;unfold orI;rw [if_neg h0]
   refine Wq<|qW 29 32 rfl<|qM rfl<|qM rfl<|qN rfl<|Nl<|Wt rfl ‹_›<|Wq<|qW 36 38 rfl<|qM rfl<|qA rfl<|Nl<|Wz ⟨.inl rfl,_,mt,(Rc (Rt0 rfl) Rv),aM,?_⟩
   exact ⟨by rw [ho2];rfl,rfl⟩
 ·have g1:decide ((k:Int) < (l.length:Int))=false:=decide_eq_false (by omega)
  have ho2:orL l=0:=by rw [← ho,List.drop_of_length_le (by omega)];rfl
  refine Wq<|qW 17 18 rfl<|qK rfl<|Nl<|Wq<|Wo rfl ‹_›<|Wx<|Wq<|qW 48 50 rfl<|qM rfl<|qA rfl<|Nl<|Wz ⟨.inl rfl,_,mt,(Rc (Rt0 rfl) Rv),aM,?_⟩
  exact ⟨by rw [ho2];rfl,rfl⟩
theorem orI_zero (x:Int):orI x 0=x:=by unfold orI;split<;>simp_all
theorem or2_any (a b:Int):AFn Tryz.prog 135 0 [.isl [.base (.int .i64 a),.base (.int .i64 b)] 2] mt (.base (.int .i64 (orI a b))) mt:=by
 have h:=or_any [a,b] (by simp)
 have e:orL [a,b]=orI a b:=by show orI a (orI b 0)=_;rw [orI_zero]
 rw [e] at h
 exact h
theorem or3_any (a b c:Int):AFn Tryz.prog 135 0 [.isl [.base (.int .i64 a),.base (.int .i64 b),.base (.int .i64 c)] 3] mt (.base (.int .i64 (orI a (orI b c)))) mt:=by
 have h:=or_any [a,b,c] (by simp)
 have e:orL [a,b,c]=orI a (orI b c):=by show orI a (orI b (orI c 0))=_;rw [orI_zero]
 rw [e] at h
 exact h
theorem acmp_any (a b:Ad):AFn Tryz.prog 55 0 [.agg (adC a),.agg (adC b)] mt (.base (.int .i64 (cmpA a b))) mt:=by
 refine AFn.eq Tryz.func55 rfl rfl (Nat.le_of_ble_eq_true rfl) ?_
 have h1:=family_any a
 have h2:=family_any b
 have h3:=cmpi_any (famA a) (famA b)
 have h4:=cmpu_any a.hi b.hi
 have h5:=cmpu_any a.lo b.lo
 have h6:=or3_any (cmpI (famA a) (famA b)) (cmpI a.hi b.hi) (cmpI a.lo b.lo)
 unfold adC at h1 h2 ⊢
 refine Wq<|qW 0 3 rfl<|qC rfl<|qC rfl<|qA rfl<|Nl<|Wq<|Wd 7 25 (by decide) rfl mixed rfl<|qG rfl ty36 rfl (Tl rfl)<|qY rfl (h1) fok137 rfl<|qG rfl ty36 rfl (Tl rfl)<|qY rfl (h2) fok137 rfl<|qY rfl (h3) fok136 rfl<|qF rfl ty36 rfl<|qL rfl ty34 rfl<|qF rfl ty36 rfl<|qL rfl ty34 rfl<|qY rfl (h4) fok138 rfl<|qF rfl ty36 rfl<|qL rfl ty34 rfl<|qF rfl ty36 rfl<|qL rfl ty34 rfl<|qY rfl (h5) fok138 rfl<|Od rfl rfl (LO.buildSlice rfl ty22 ty3 (by decide) (by decide) (.cons rfl rfl rfl rfl (Sl rfl) (.cons rfl rfl rfl rfl (Sl rfl) (.cons rfl rfl rfl rfl (Sl rfl) .nil))))<|Od rfl rfl (C0 (fr:=[22]) rfl rfl (h6) fok135 (.cons rfl (.one (.osl (by decide) rfl (Tl rfl) rfl)) .nil) rfl)<|qA rfl<|Nl ⟨by kernel_rfl,(Wz ⟨.inl rfl,_,mt,(Rc (Rt0 rfl) Rv),aM,?_⟩)⟩
 exact ⟨rfl,rfl⟩
theorem pcmp_any (p q:Pre):AFn Tryz.prog 61 0 [.agg (preC p),.agg (preC q)] mt (.base (.int .i64 (cmpP p q))) mt:=by
 refine AFn.eq Tryz.func61 rfl rfl (Nat.le_of_ble_eq_true rfl) ?_
 have h1:=acmp_any p.ad q.ad
 have h2:=cmpi_any p.len q.len
 have h6:=or2_any (cmpA p.ad q.ad) (cmpI p.len q.len)
 refine Wq<|qW 0 3 rfl<|qC rfl<|qC rfl<|qA rfl<|Nl<|Wq<|Wd 7 20 (by decide) rfl mixed rfl<|qF rfl ty38 rfl<|qG rfl ty36 rfl (Tl rfl)<|qF rfl ty38 rfl<|qG rfl ty36 rfl (Tl rfl)<|qY rfl (h1) fok55 rfl<|qF rfl ty38 rfl<|qL rfl ty3 rfl<|qF rfl ty38 rfl<|qL rfl ty3 rfl<|qY rfl (h2) fok136 rfl<|Od rfl rfl (LO.buildSlice rfl ty22 ty3 (by decide) (by decide) (.cons rfl rfl rfl rfl (Sl rfl) (.cons rfl rfl rfl rfl (Sl rfl) .nil)))<|Od rfl rfl (C0 (fr:=[17]) rfl rfl (h6) fok135 (.cons rfl (.one (.osl (by decide) rfl (Tl rfl) rfl)) .nil) rfl)<|qA rfl<|Nl ⟨by kernel_rfl,(Wz ⟨.inl rfl,_,mt,(Rc (Rt0 rfl) Rv),aM,?_⟩)⟩
 exact ⟨rfl,rfl⟩
structure PreOk (p:Pre):Prop where
 val:validA p.ad.v6 p.ad.hi p.ad.lo=true
 hi:U64 p.ad.hi
 lo:U64 p.ad.lo
 ge:0≤p.len
 le:p.len≤widthA p.ad
 clr:clrA p.ad ((widthA p.ad).toNat - p.len.toNat)=p.ad
theorem LO.eql_adb {o:Oper} {E:Operand→Option AV} {H:Hp} {f:Nat} {ty:TypeId} {x y:Operand} {r:Bool} (a b:Ad) (h:eqA a b=r) (ho:o.op=.binOp .eql 36 x y ty) (hx:E x=some (.agg (adC a))) (hy:E y=some (.agg (adC b))):LO Tryz.prog o E H f [] [] (.base (.bool r)) H:=h ▸ LO.eql_ad a b ho hx hy
theorem eqA_refl (a:Ad):eqA a a=true:=by unfold eqA;simp
set_option maxHeartbeats 1000000 in
theorem pvalid_ok (p:Pre) (h:PreOk p):AFn Tryz.prog 42 0 [.agg (preC p)] mt (.base (.bool true)) mt:=by
 refine AFn.eq Tryz.func42 rfl rfl (Nat.le_of_ble_eq_true rfl) ?_
 have h1:=avalid_any p.ad
 rw [h.val] at h1
 have h2:=pwidth_any p.ad
 have h3:=first_any p.ad p.len.toNat (by have:=h.le;have:=h.ge;omega)
 rw [h.clr,show ((p.len.toNat:Nat):Int)=p.len from by have:=h.ge;omega] at h3
 have g1:decide (p.len ≥ 0)=true:=decide_eq_true h.ge
 have g2:decide (p.len≤widthA p.ad)=true:=decide_eq_true h.le
 have he:=eqA_refl p.ad
 refine Wq<|qW 0 2 rfl<|qC rfl<|qA rfl<|Nl<|Wq<|Wd 6 33 (by decide) rfl mixed rfl<|qF rfl ty38 rfl<|qG rfl ty36 rfl (Tl rfl)<|qY rfl (h1) fok117 rfl<|qM rfl<|gF rfl rfl ty38 rfl<|gL rfl rfl ty3 rfl<|gGe rfl rfl<|qT rfl rfl rfl<|qM rfl<|gF rfl ‹_› ty38 rfl<|gL rfl ‹_› ty3 rfl<|gF rfl ‹_› ty38 rfl<|gG rfl ‹_› ty36 rfl (Tl rfl)<|gY rfl ‹_› (h2) fok118 rfl<|gLe rfl ‹_›<|qT rfl ‹_› rfl<|qM rfl<|gF rfl ‹_› ty38 rfl<|gG rfl ‹_› ty36 rfl (Tl rfl)<|gF rfl ‹_› ty38 rfl<|gL rfl ‹_› ty3 rfl<|gY rfl ‹_› (h3) fok119 rfl<|gF rfl ‹_› ty38 rfl<|gG rfl ‹_› ty36 rfl (Tl rfl)<|qU rfl ‹_› rfl (LO.eql_adb p.ad p.ad he rfl rfl rfl)<|qT rfl ‹_› rfl<|qA rfl<|Nl ⟨by kernel_rfl,(Wz ⟨.inl rfl,_,mt,(Rc (Rt0 rfl) Rv),aM,?_⟩)⟩
 exact ⟨rfl,rfl⟩
theorem mk_ok {a:Ad} {n:Nat} (hn:(n:Int)≤widthA a):PreOk (mkP a n):=by
 have hln:=addrL_len a
 have hl16:(addrL a).length≤16:=by rw [hln];cases a.v6<;>simp
 have hB:IsB (mkL .andNot a n):=chgs_isB _ _ _ _ (addrL_isB a)
 have hlen:(mkL .andNot a n).length=(addrL a).length:=chgs_len _ _ _ _
 have hf:=fb_full hB (by omega)
 obtain ⟨b1,b2⟩:=fb_bd (mkL .andNot a n)
 have hb:=valI_bd hB
 refine ⟨?_,b1,b2,Int.natCast_nonneg _,hn,mk_clr hn⟩
 show validA a.v6 (fb (mkL .andNot a n)).1 (fb (mkL .andNot a n)).2=true
 unfold validA
 cases hv:a.v6 with
 | true=>rfl
 | false =>
  rw [hlen,hln,hv] at hb
  have h4:(256:Int) ^ (if false=true then 16 else 4)=4294967296:=by decide
  rw [h4,← hf] at hb
  unfold U64 at b1 b2
  have h0:(fb (mkL .andNot a n)).1=0:=by omega
  have h1:(fb (mkL .andNot a n)).2 < 4294967296:=by omega
  simp [h0,h1]
theorem nextV_bd (l:List Int) (at_:Nat) (n:Int) (hn:1≤n):0≤nextV l at_ n∧nextV l at_ n < n:=by
 unfold nextV
 split
 ·exact ⟨Int.emod_nonneg _ (by omega),Int.emod_lt_of_pos _ (by omega)⟩
 ·omega
theorem nextN (l:List Int) (at_:Nat) (n:Nat) (hn:1≤n):∃ k:Nat,nextV l at_ n=(k:Int)∧k < n:=by
 have h:=nextV_bd l at_ n (by omega)
 exact ⟨(nextV l at_ n).toNat,by omega,by omega⟩
theorem u64w (x:Int):U64 (IntKind.u64.wrap x):=by unfold U64;rw [IntKind.wrap_u64];omega
def four5:List Int:=[0,1,4294967295,2147483647,2147483648]
def six4:List Int:=[0,1,18446744073709551615,9223372036854775808]
theorem f5_at {r:Nat} (h:r < 5):∃ y:Int,(0≤y∧y < 4294967296)∧((four5.map fun z=>AV.base (.int .u64 z)):List AV)[0 + r * 1]?=some (.base (.int .u64 y)):=by
 match r,h with
 | 0,_=>exact ⟨_,by decide,rfl⟩
 | 1,_=>exact ⟨_,by decide,rfl⟩
 | 2,_=>exact ⟨_,by decide,rfl⟩
 | 3,_=>exact ⟨_,by decide,rfl⟩
 | 4,_=>exact ⟨_,by decide,rfl⟩
theorem s4_at {r:Nat} (h:r < 4):∃ y:Int,U64 y∧((six4.map fun z=>AV.base (.int .u64 z)):List AV)[0 + r * 1]?=some (.base (.int .u64 y)):=by
 match r,h with
 | 0,_=>exact ⟨_,⟨by decide,by decide⟩,rfl⟩
 | 1,_=>exact ⟨_,⟨by decide,by decide⟩,rfl⟩
 | 2,_=>exact ⟨_,⟨by decide,by decide⟩,rfl⟩
 | 3,_=>exact ⟨_,⟨by decide,by decide⟩,rfl⟩
theorem v4_lo {x:Int} (h:0≤x∧x < 4294967296):validA false 0 x=true∧U64 0∧U64 x:=by
 refine ⟨?_,⟨by decide,by decide⟩,?_,?_⟩
 ·unfold validA;simp;omega
 ·omega
 ·omega
theorem daddr_any (l:List Int) (at_:Nat) (hl:l.length≤9223372036854775807) :
 ∃ v H',AFn Tryz.prog 18 1 [.own 0 0] (up mt 0 (some (deckC l at_))) v H'∧∃ (a:Ad) (at':Nat),(validA a.v6 a.hi a.lo=true∧U64 a.hi∧U64 a.lo)∧v=.agg (adC a)∧H'=up mt 0 (some (deckC l at')):=by
 refine AFn.ex Tryz.func18 rfl rfl (Nat.le_of_ble_eq_true rfl) ?_
 obtain ⟨k,hk⟩:∃ k,nextV l at_ 6=k:=⟨_,rfl⟩
 obtain ⟨a1,ha1⟩:∃ a1,nextAt l at_=a1:=⟨_,rfl⟩
 have hn:=next_any l at_ 6 (by decide) (by decide) hl
 rw [hk,ha1] at hn
 have hcase:((k == 0)=true)∨((k == 0)=false∧(k == 1)=true)∨((k == 0)=false∧(k == 1)=false∧(k == 2)=true)∨((k == 0)=false∧(k == 1)=false∧(k == 2)=false∧(k == 3)=true)∨((k == 0)=false∧(k == 1)=false∧(k == 2)=false∧(k == 3)=false∧(k == 4)=true)∨((k == 0)=false∧(k == 1)=false∧(k == 2)=false∧(k == 3)=false∧(k == 4)=false):=by
  cases (k == 0)<;>cases (k == 1)<;>cases (k == 2)<;>cases (k == 3)<;>cases (k == 4)<;>simp
 refine Wq<|qW 1 2 rfl<|qB rfl ty36<|Nl<|Wq<|Wq<|qW 6 8 rfl<|qM rfl<|Od rfl rfl (C1 (fr:=[]) rfl rfl (hn) fok21 (.own rfl rfl (.cons rfl (.pure rfl) .nil)) rfl rfl rfl (Cn _ _) (by decide) rfl)<|Nl<|Wb ?_
 rcases hcase with e0|⟨e0,e1⟩|⟨e0,e1,e2⟩|⟨e0,e1,e2,e3⟩|⟨e0,e1,e2,e3,e4⟩|⟨e0,e1,e2,e3,e4⟩
 ·have b1:=nextV_bd l a1 8 (by decide)
  have b2:=nextV_bd l (nextAt l a1) 4 (by decide)
  refine Wq<|qW 12 14 rfl<|qE rfl<|qA rfl<|Nl<|Wt rfl ‹_›<|Wq<|qW 18 28 rfl<|qM rfl<|Od rfl rfl (C1 (fr:=[]) rfl rfl (next_any l a1 8 (by decide) (by decide) hl) fok21 (.own rfl rfl (.cons rfl (.pure rfl) .nil)) rfl rfl rfl (Cn _ _) (by decide) rfl)<|Od rfl rfl (LO.shl rfl rfl rfl (by omega))<|Od rfl rfl (LO.add rfl rfl rfl)<|qM rfl<|Od rfl rfl (C1 (fr:=[]) rfl rfl (next_any l (nextAt l a1) 4 (by decide) (by decide) hl) fok21 (.own rfl rfl (.cons rfl (.pure rfl) .nil)) rfl rfl rfl (Cn _ _) (by decide) rfl)<|Od rfl rfl (LO.add rfl rfl rfl)<|Od rfl rfl (LO.conv rfl rfl ty3 ty34)<|Od rfl rfl (Bs rfl ty36 (.cons rfl rfl rfl rfl (Sl rfl) .nil))<|qS rfl ty36 (Sl rfl) rfl<|Nl<|Wz ⟨.inl rfl,_,(up mt 0 (some (deckC l (nextAt l (nextAt l a1))))),(Rc (Ra0 rfl rfl ty36 rfl (Tl rfl)) Rv),(aU rfl aM),?_⟩
  refine ⟨⟨false,0,_⟩,_,v4_lo (x:=IntKind.u64.wrap (IntKind.i64.wrap (IntKind.i64.wrap (167772160 + IntKind.i64.wrap (nextV l a1 8 * 2 ^ (min (8:Int).toNat IntKind.i64.bits))) + nextV l (nextAt l a1) 4))) ?_,rfl,rfl⟩
  rw [show (2:Int) ^ (min (8:Int).toNat IntKind.i64.bits)=256 from by decide,IntWalk.i64_in (nextV l a1 8 * 256) (by omega),IntWalk.i64_in (167772160 + _) (by omega),IntWalk.i64_in _ (by omega),IntKind.wrap_u64];omega
 ·have b1:=nextV_bd l a1 4 (by decide)
  have b2:=nextV_bd l (nextAt l a1) 8 (by decide)
  refine Wq<|qW 12 14 rfl<|qE rfl<|qA rfl<|Nl<|Wo rfl ‹_›<|Wq<|qW 32 34 rfl<|qE rfl<|qA rfl<|Nl<|Wt rfl ‹_›<|Wq<|qW 38 47 rfl<|qM rfl<|Od rfl rfl (C1 (fr:=[]) rfl rfl (next_any l a1 4 (by decide) (by decide) hl) fok21 (.own rfl rfl (.cons rfl (.pure rfl) .nil)) rfl rfl rfl (Cn _ _) (by decide) rfl)<|Od rfl rfl (Ci rfl rfl ty3 ty34 (IntWalk.u64_in _ (by omega)))<|qZ rfl (IntWalk.u64_in _ (by omega))<|qM rfl<|Od rfl rfl (C1 (fr:=[]) rfl rfl (next_any l (nextAt l a1) 8 (by decide) (by decide) hl) fok21 (.own rfl rfl (.cons rfl (.pure rfl) .nil)) rfl rfl rfl (Cn _ _) (by decide) rfl)<|Od rfl rfl (Ci rfl rfl ty3 ty34 (IntWalk.u64_in _ (by omega)))<|Od rfl rfl (Bs rfl ty36 (.cons rfl rfl rfl rfl (Sl rfl) (.cons rfl rfl rfl rfl (Sl rfl) (.cons rfl rfl rfl rfl (Sl rfl) .nil))))<|qS rfl ty36 (Sl rfl) rfl<|Nl<|Wz ⟨.inl rfl,_,(up mt 0 (some (deckC l (nextAt l (nextAt l a1))))),(Rc (Ra0 rfl rfl ty36 rfl (Tl rfl)) Rv),(aU rfl aM),?_⟩
  exact ⟨⟨true,2306139568115548160 + nextV l a1 4,nextV l (nextAt l a1) 8⟩,_,⟨rfl,⟨by simp;omega,by simp;omega⟩,⟨by simp;omega,by simp;omega⟩⟩,rfl,rfl⟩
 ·obtain ⟨r1,hr1,b1⟩:=nextN l a1 5 (by decide)
  obtain ⟨y,hy,hat⟩:=f5_at b1
  have n1:=next_any l a1 5 (by decide) (by decide) hl
  rw [show nextV l a1 5=r1 from hr1] at n1
  refine Wq<|qW 12 14 rfl<|qE rfl<|qA rfl<|Nl<|Wo rfl ‹_›<|Wq<|qW 32 34 rfl<|qE rfl<|qA rfl<|Nl<|Wo rfl ‹_›<|Wq<|qW 51 53 rfl<|qE rfl<|qA rfl<|Nl<|Wt rfl ‹_›<|Wq<|qW 57 64 rfl<|Od rfl rfl (LO.buildSlice rfl ty152 ty34 (by decide) (by decide) (.cons rfl rfl rfl rfl (Sl rfl) (.cons rfl rfl rfl rfl (Sl rfl) (.cons rfl rfl rfl rfl (Sl rfl) (.cons rfl rfl rfl rfl (Sl rfl) (.cons rfl rfl rfl rfl (Sl rfl) .nil))))))<|qM rfl<|Od rfl rfl (C1 (fr:=[]) rfl rfl (n1) fok21 (.own rfl rfl (.cons rfl (.pure rfl) .nil)) rfl rfl rfl (Cn _ _) (by decide) rfl)<|Od rfl rfl (Ia rfl rfl rfl rfl ty152 ty34 (by omega))<|Od rfl rfl (Ld rfl rfl rfl hat ty34 rfl)<|Od rfl rfl (Bs rfl ty36 (.cons rfl rfl rfl rfl (Sl rfl) .nil))<|qS rfl ty36 (Sl rfl) rfl<|Nl<|Wz ⟨.inl rfl,_,(up mt 0 (some (deckC l (nextAt l a1)))),(Rc (Ra0 rfl rfl ty36 rfl (Tl rfl)) Rv),(aU rfl aM),?_⟩
  exact ⟨⟨false,0,y⟩,_,v4_lo hy,rfl,rfl⟩
 ·obtain ⟨r1,hr1,b1⟩:=nextN l a1 4 (by decide)
  obtain ⟨r2,hr2,b2⟩:=nextN l (nextAt l a1) 4 (by decide)
  obtain ⟨y,hy,hat⟩:=s4_at b1
  obtain ⟨z,hz,hat2⟩:=s4_at b2
  have n1:=next_any l a1 4 (by decide) (by decide) hl
  rw [show nextV l a1 4=r1 from hr1] at n1
  have n2:=next_any l (nextAt l a1) 4 (by decide) (by decide) hl
  rw [show nextV l (nextAt l a1) 4=r2 from hr2] at n2
  refine Wq<|qW 12 14 rfl<|qE rfl<|qA rfl<|Nl<|Wo rfl ‹_›<|Wq<|qW 32 34 rfl<|qE rfl<|qA rfl<|Nl<|Wo rfl ‹_›<|Wq<|qW 51 53 rfl<|qE rfl<|qA rfl<|Nl<|Wo rfl ‹_›<|Wq<|qW 68 70 rfl<|qE rfl<|qA rfl<|Nl<|Wt rfl ‹_›<|Wq<|Wd 74 86 (by decide) rfl mixed rfl<|Od rfl rfl (LO.buildSlice rfl ty152 ty34 (by decide) (by decide) (.cons rfl rfl rfl rfl (Sl rfl) (.cons rfl rfl rfl rfl (Sl rfl) (.cons rfl rfl rfl rfl (Sl rfl) (.cons rfl rfl rfl rfl (Sl rfl) .nil)))))<|qM rfl<|Od rfl rfl (C1 (fr:=[]) rfl rfl (n1) fok21 (.own rfl rfl (.cons rfl (.pure rfl) .nil)) rfl rfl rfl (Cn _ _) (by decide) rfl)<|Od rfl rfl (Ia rfl rfl rfl rfl ty152 ty34 (by omega))<|Od rfl rfl (Ld rfl rfl rfl hat ty34 rfl)<|Od rfl rfl (LO.buildSlice rfl ty152 ty34 (by decide) (by decide) (.cons rfl rfl rfl rfl (Sl rfl) (.cons rfl rfl rfl rfl (Sl rfl) (.cons rfl rfl rfl rfl (Sl rfl) (.cons rfl rfl rfl rfl (Sl rfl) .nil)))))<|qM rfl<|Od rfl rfl (C1 (fr:=[]) rfl rfl (n2) fok21 (.own rfl rfl (.cons rfl (.pure rfl) .nil)) rfl rfl rfl (Cn _ _) (by decide) rfl)<|Od rfl rfl (Ia rfl rfl rfl rfl ty152 ty34 (by omega))<|Od rfl rfl (Ld rfl rfl rfl hat2 ty34 rfl)<|Od rfl rfl (Bs rfl ty36 (.cons rfl rfl rfl rfl (Sl rfl) (.cons rfl rfl rfl rfl (Sl rfl) (.cons rfl rfl rfl rfl (Sl rfl) .nil))))<|qS rfl ty36 (Sl rfl) rfl<|Nl ⟨by kernel_rfl,(Wz ⟨.inl rfl,_,(up mt 0 (some (deckC l (nextAt l (nextAt l a1))))),(Rc (Ra0 rfl rfl ty36 rfl (Tl rfl)) Rv),(aU rfl aM),?_⟩)⟩
  exact ⟨⟨true,y,z⟩,_,⟨rfl,hy,hz⟩,rfl,rfl⟩
 ·have b1:=nextV_bd l a1 1073741824 (by decide)
  obtain ⟨c2,hc2⟩:∃ c2,nextAt l a1=c2:=⟨_,rfl⟩
  have b2:=nextV_bd l c2 5 (by decide)
  obtain ⟨c3,hc3⟩:∃ c3,nextAt l c2=c3:=⟨_,rfl⟩
  have b3:=nextV_bd l c3 1073741824 (by decide)
  obtain ⟨c4,hc4⟩:∃ c4,nextAt l c3=c4:=⟨_,rfl⟩
  have b4:=nextV_bd l c4 5 (by decide)
  have n1:=next_any l a1 1073741824 (by decide) (by decide) hl
  rw [hc2] at n1
  have n2:=next_any l c2 5 (by decide) (by decide) hl
  rw [hc3] at n2
  have n3:=next_any l c3 1073741824 (by decide) (by decide) hl
  rw [hc4] at n3
  refine Wq<|qW 12 14 rfl<|qE rfl<|qA rfl<|Nl<|Wo rfl ‹_›<|Wq<|qW 32 34 rfl<|qE rfl<|qA rfl<|Nl<|Wo rfl ‹_›<|Wq<|qW 51 53 rfl<|qE rfl<|qA rfl<|Nl<|Wo rfl ‹_›<|Wq<|qW 68 70 rfl<|qE rfl<|qA rfl<|Nl<|Wo rfl ‹_›<|Wq<|qW 90 92 rfl<|qE rfl<|qA rfl<|Nl<|Wt rfl ‹_›<|Wq<|qW 96 114 rfl<|qM rfl<|Od rfl rfl (C1 (fr:=[]) rfl rfl (n1) fok21 (.own rfl rfl (.cons rfl (.pure rfl) .nil)) rfl rfl rfl (Cn _ _) (by decide) rfl)<|Od rfl rfl (Ci rfl rfl ty3 ty34 (IntWalk.u64_in _ (by omega)))<|qM rfl<|Od rfl rfl (C1 (fr:=[]) rfl rfl (n2) fok21 (.own rfl rfl (.cons rfl (.pure rfl) .nil)) rfl rfl rfl (Cn _ _) (by decide) rfl)<|Od rfl rfl (LO.mul_in rfl rfl rfl (iW _ (by omega)))<|Od rfl rfl (Ci rfl rfl ty3 ty151 (IntWalk.u64_in _ (by omega)))<|Od rfl rfl (LO.shl rfl rfl rfl (by omega))<|qM rfl<|Od rfl rfl (C1 (fr:=[]) rfl rfl (n3) fok21 (.own rfl rfl (.cons rfl (.pure rfl) .nil)) rfl rfl rfl (Cn _ _) (by decide) rfl)<|Od rfl rfl (Ci rfl rfl ty3 ty34 (IntWalk.u64_in _ (by omega)))<|qM rfl<|Od rfl rfl (C1 (fr:=[]) rfl rfl (next_any l c4 5 (by decide) (by decide) hl) fok21 (.own rfl rfl (.cons rfl (.pure rfl) .nil)) rfl rfl rfl (Cn _ _) (by decide) rfl)<|Od rfl rfl (LO.mul_in rfl rfl rfl (iW _ (by omega)))<|Od rfl rfl (Ci rfl rfl ty3 ty151 (IntWalk.u64_in _ (by omega)))<|Od rfl rfl (LO.shl rfl rfl rfl (by omega))<|Od rfl rfl (Bs rfl ty36 (.cons rfl rfl rfl rfl (Sl rfl) (.cons rfl rfl rfl rfl (Sl rfl) (.cons rfl rfl rfl rfl (Sl rfl) .nil))))<|qS rfl ty36 (Sl rfl) rfl<|Nl<|Wz ⟨.inl rfl,_,(up mt 0 (some (deckC l (nextAt l c4)))),(Rc (Ra0 rfl rfl ty36 rfl (Tl rfl)) Rv),(aU rfl aM),?_⟩
  exact ⟨⟨true,_,_⟩,_,⟨rfl,u64w _,u64w _⟩,rfl,rfl⟩
 ·have b1:=nextV_bd l a1 1073741824 (by decide)
  refine Wq<|qW 12 14 rfl<|qE rfl<|qA rfl<|Nl<|Wo rfl ‹_›<|Wq<|qW 32 34 rfl<|qE rfl<|qA rfl<|Nl<|Wo rfl ‹_›<|Wq<|qW 51 53 rfl<|qE rfl<|qA rfl<|Nl<|Wo rfl ‹_›<|Wq<|qW 68 70 rfl<|qE rfl<|qA rfl<|Nl<|Wo rfl ‹_›<|Wq<|qW 90 92 rfl<|qE rfl<|qA rfl<|Nl<|Wo rfl ‹_›<|Wu<|Wq<|qW 118 123 rfl<|qM rfl<|Od rfl rfl (C1 (fr:=[]) rfl rfl (next_any l a1 1073741824 (by decide) (by decide) hl) fok21 (.own rfl rfl (.cons rfl (.pure rfl) .nil)) rfl rfl rfl (Cn _ _) (by decide) rfl)<|Od rfl rfl (Ci rfl rfl ty3 ty34 (IntWalk.u64_in _ (by omega)))<|Od rfl rfl (Bs rfl ty36 (.cons rfl rfl rfl rfl (Sl rfl) .nil))<|qS rfl ty36 (Sl rfl) rfl<|Nl<|Wz ⟨.inl rfl,_,(up mt 0 (some (deckC l (nextAt l a1)))),(Rc (Ra0 rfl rfl ty36 rfl (Tl rfl)) Rv),(aU rfl aM),?_⟩
  refine ⟨⟨false,0,_⟩,_,v4_lo (x:=nextV l a1 1073741824) ?_,rfl,rfl⟩
  omega
def eights:List Int:=[8,22,23,24,16]
theorem eights_at {r:Nat} (h:r < 5):∃ y:Nat,y≤32∧((eights.map fun z=>AV.base (.int .i64 z)):List AV)[0 + r * 1]?=some (.base (.int .i64 (y:Int))):=by
 match r,h with
 | 0,_=>exact ⟨8,by decide,rfl⟩
 | 1,_=>exact ⟨22,by decide,rfl⟩
 | 2,_=>exact ⟨23,by decide,rfl⟩
 | 3,_=>exact ⟨24,by decide,rfl⟩
 | 4,_=>exact ⟨16,by decide,rfl⟩
set_option maxHeartbeats 1000000 in
theorem dprefix_any (l:List Int) (at_:Nat) (hl:l.length≤9223372036854775807) :
 ∃ v H',AFn Tryz.prog 37 1 [.own 0 0] (up mt 0 (some (deckC l at_))) v H'∧∃ (p:Pre) (at':Nat),PreOk p∧v=.agg (preC p)∧H'=up mt 0 (some (deckC l at')):=by
 refine AFn.ex Tryz.func37 rfl rfl (Nat.le_of_ble_eq_true rfl) ?_
 obtain ⟨_,_,hda,a,a0,⟨hv,hh,hlo⟩,rfl,rfl⟩:=daddr_any l at_ hl
 obtain ⟨w,hw⟩:∃ w:Nat,widthA a=(w:Int):=⟨(widthA a).toNat,by unfold widthA;cases a.v6<;>rfl⟩
 have hwb:w=32∧a.v6=false∨w=128∧a.v6=true:=by
  unfold widthA at hw
  cases h:a.v6<;>rw [h] at hw<;>simp at hw
  ·exact .inl ⟨by omega,rfl⟩
  ·exact .inr ⟨by omega,rfl⟩
 obtain ⟨a1,ha1⟩:∃ a1,nextAt l a0=a1:=⟨_,rfl⟩
 have n1:=next_any l a0 4 (by decide) (by decide) hl
 obtain ⟨e1,he1⟩:∃ e1,nextV l a0 4=e1:=⟨_,rfl⟩
 rw [he1,ha1] at n1
 refine Wq<|qW 1 2 rfl<|qB rfl ty38<|Nl<|Wq<|qW 6 10 rfl<|qM rfl<|Od rfl rfl (C1 (fr:=[]) rfl rfl (hda) fok18 (.own rfl rfl .nil) rfl rfl rfl (Cn _ _) (by decide) rfl)<|qB rfl ty36<|qS rfl ty36 (Sl rfl) rfl<|Nl<|Wq<|qW 14 15 rfl<|qA rfl<|Nl<|Wq<|Wq<|qW 19 21 rfl<|qF rfl ty36 rfl<|qL rfl ty4 rfl<|Nl ?_
 rcases hwb with ⟨e,hv6⟩|⟨e,hv6⟩
 case' inl =>
  refine Wo rfl (hv6)<|Wu ?_
  rw [show (32:Int)=((w:Nat):Int) from by rw [e];rfl]
 case' inr =>
  refine Wt rfl (hv6)<|qW 25 26 rfl<|qA rfl<|Nl ?_
  rw [show (128:Int)=((w:Nat):Int) from by rw [e];rfl]
 all_goals
  have hw128:32≤w∧w≤128:=by omega
  have hww:(w:Int) + 1=((w + 1:Nat):Int):=by omega
  obtain ⟨r2,hr2,b2⟩:=nextN l a1 (w + 1) (by omega)
  obtain ⟨r3,hr3,b3⟩:=nextN l a1 9 (by decide)
  obtain ⟨r4,hr4,b4⟩:=nextN l a1 5 (by decide)
  obtain ⟨y,hy,hat⟩:=eights_at b4
  have n2:=next_any l a1 ((w + 1:Nat):Int) (by omega) (by omega) hl
  have n3:=next_any l a1 9 (by decide) (by decide) hl
  have n4:=next_any l a1 5 (by decide) (by decide) hl
  rw [hr2] at n2
  rw [show nextV l a1 9=r3 from hr3] at n3
  rw [show nextV l a1 5=r4 from hr4] at n4
  repeat (refine Wq ?_)
  refine qW 30 32 rfl<|qM rfl<|Od rfl rfl (C1 (fr:=[]) rfl rfl (n1) fok21 (.own rfl rfl (.cons rfl (.pure rfl) .nil)) rfl rfl rfl (Cn _ _) (by decide) rfl)<|Nl<|W.joinK (α:=Nat × Nat) 3 (fun x=>[(0,.own 0 0),(2,.own 1 0),(3,.own 2 0),(4,.base (.int .i64 (x.1:Int)))]) (fun x=>up (up (up mt 0 (some (deckC l x.2))) 1 (some (preC ⟨⟨false,0,0⟩,0⟩))) 2 (some (adC a))) (fun x=>x.1≤w) .nil ?_ ?_
  rotate_left
  rintro ⟨n,b⟩ hIJ
  try (dsimp only at hIJ)
  try dsimp only [joinT,baseT,List.cons_append,List.nil_append]
  rotate_right
  ·
   refine Wb ?_
   rcases (show (e1 == 0)=true∨((e1 == 0)=false∧(e1 == 1)=true)∨((e1 == 0)=false∧(e1 == 1)=false∧(e1 == 2)=true)∨((e1 == 0)=false∧(e1 == 1)=false∧(e1 == 2)=false) by cases (e1 == 0)<;>cases (e1 == 1)<;>cases (e1 == 2)<;>simp) with g1|⟨g1,g2⟩|⟨g1,g2,g3⟩|⟨g1,g2,g3⟩
   ·
    repeat (refine Wq ?_)
    refine qW 36 38 rfl<|qE rfl<|qA rfl<|Nl<|Wt rfl ‹_›<|qW 42 47 rfl<|qM rfl<|qM rfl<|qZ rfl (iW _ (by omega)) ?_
    rw [hww]
    refine Od rfl rfl (C1 (fr:=[]) rfl rfl (n2) fok21 (.own rfl rfl (.cons rfl (.pure rfl) .nil)) rfl rfl rfl (Cn _ _) (by decide) rfl)<|qA rfl<|Nl ?_
    intro yJ KJ hJ
    refine W.renameJ [(0,0),(1,1),(2,8)] 3 (by decide) ?_ ?_ (hJ (r2,(nextAt l a1)) (show r2≤w from (by omega)))
    ·exact lC (lI rfl) (lC (lI rfl) (lC (lI rfl) (lC (lR rfl) lN)))
    ·exact aU (kR rfl) (aU (kR rfl) (aU (kR rfl) aM))
   ·
    have hs:(w:Int) - (r3:Int)=((w - r3:Nat):Int):=by omega
    repeat (refine Wq ?_)
    refine qW 36 38 rfl<|qE rfl<|qA rfl<|Nl<|Wo rfl ‹_› ?_
    repeat (refine Wq ?_)
    refine qW 51 53 rfl<|qE rfl<|qA rfl<|Nl<|Wt rfl ‹_›<|qW 57 62 rfl<|qM rfl<|qM rfl<|Od rfl rfl (C1 (fr:=[]) rfl rfl (n3) fok21 (.own rfl rfl (.cons rfl (.pure rfl) .nil)) rfl rfl rfl (Cn _ _) (by decide) rfl)<|Od rfl rfl (LO.sub_in rfl rfl rfl (iW _ (by omega)))<|qA rfl<|Nl ?_
    rw [hs]
    intro yJ KJ hJ
    refine W.renameJ [(0,0),(1,1),(2,8)] 3 (by decide) ?_ ?_ (hJ ((w - r3),(nextAt l a1)) (show (w - r3)≤w from (by omega)))
    ·exact lC (lI rfl) (lC (lI rfl) (lC (lI rfl) (lC (lR rfl) lN)))
    ·exact aU (kR rfl) (aU (kR rfl) (aU (kR rfl) aM))
   ·
    repeat (refine Wq ?_)
    refine qW 36 38 rfl<|qE rfl<|qA rfl<|Nl<|Wo rfl ‹_› ?_
    repeat (refine Wq ?_)
    refine qW 51 53 rfl<|qE rfl<|qA rfl<|Nl<|Wo rfl ‹_› ?_
    repeat (refine Wq ?_)
    refine qW 66 68 rfl<|qE rfl<|qA rfl<|Nl<|Wt rfl ‹_›<|qW 72 78 rfl<|Od rfl rfl (LO.buildSlice rfl ty22 ty3 (by decide) (by decide) (.cons rfl rfl rfl rfl (Sl rfl) (.cons rfl rfl rfl rfl (Sl rfl) (.cons rfl rfl rfl rfl (Sl rfl) (.cons rfl rfl rfl rfl (Sl rfl) (.cons rfl rfl rfl rfl (Sl rfl) .nil))))))<|qM rfl<|Od rfl rfl (C1 (fr:=[]) rfl rfl (n4) fok21 (.own rfl rfl (.cons rfl (.pure rfl) .nil)) rfl rfl rfl (Cn _ _) (by decide) rfl)<|Od rfl rfl (Ia rfl rfl rfl rfl ty22 ty3 (by omega))<|Od rfl rfl (Ld rfl rfl rfl hat ty3 rfl)<|qA rfl<|Nl ?_
    intro yJ KJ hJ
    refine W.renameJ [(0,0),(1,1),(2,8)] 3 (by decide) ?_ ?_ (hJ (y,(nextAt l a1)) (show y≤w from (by omega)))
    ·exact lC (lI rfl) (lC (lI rfl) (lC (lI rfl) (lC (lR rfl) lN)))
    ·exact aU (kR rfl) (aU (kR rfl) (aU (kR rfl) aM))
   ·
    repeat (refine Wq ?_)
    refine qW 36 38 rfl<|qE rfl<|qA rfl<|Nl<|Wo rfl ‹_› ?_
    repeat (refine Wq ?_)
    refine qW 51 53 rfl<|qE rfl<|qA rfl<|Nl<|Wo rfl ‹_› ?_
    repeat (refine Wq ?_)
    refine qW 66 68 rfl<|qE rfl<|qA rfl<|Nl<|Wo rfl ‹_›<|Wu ?_
    intro yJ KJ hJ
    refine W.renameJ [(0,0),(1,1),(2,8)] 3 (by decide) ?_ ?_ (hJ (w,a1) (show w≤w from Nat.le_refl _))
    ·exact lC (lI rfl) (lC (lI rfl) (lC (lI rfl) (lC (lR rfl) lN)))
    ·exact aU (kR rfl) (aU (kR rfl) (aU (kR rfl) aM))
  have hmk:=make_any a n hv hh hlo (by rw [hw];omega)
  repeat (refine Wq ?_)
  refine qW 82 91 rfl<|qG rfl ty36 rfl (Tl rfl)<|qM rfl<|qY rfl (hmk) fok39 rfl<|qM rfl<|qX rfl<|qX rfl<|qB rfl ty38<|qS rfl ty38 (Sl rfl) rfl<|qA rfl<|Nl ?_
  repeat (refine Wq ?_)
  refine qW 95 97 rfl<|qG rfl ty38 rfl (Tl rfl)<|qS rfl ty38 (Sl rfl) rfl<|Nl<|Wz ⟨.inl rfl,_,(up mt 0 (some (deckC l b))),(Rc (Ra0 rfl rfl ty38 rfl (Tl rfl)) Rv),(aU rfl aM),?_⟩
  exact ⟨mkP a n,b,mk_ok (by rw [hw];omega),rfl,rfl⟩
structure ObjOk (o:ObjR):Prop where
 p:PreOk o.p
 ge:0≤o.mx
 le:o.mx≤128
 lo:o.p.len≤o.mx
 hi:o.mx≤widthA o.p.ad
 a1:1≤o.asn
 a5:o.asn≤5
set_option maxHeartbeats 1000000 in
theorem dobj_any (l:List Int) (at_:Nat) (hl:l.length≤9223372036854775807) :
 ∃ v H',AFn Tryz.prog 24 1 [.own 0 0] (up mt 0 (some (deckC l at_))) v H'∧∃ (o:ObjR) (at':Nat),ObjOk o∧v=.agg (objC o)∧H'=up mt 0 (some (deckC l at')):=by
 refine AFn.ex Tryz.func24 rfl rfl (Nat.le_of_ble_eq_true rfl) ?_
 obtain ⟨_,_,hda,p,a0,hp,rfl,rfl⟩:=dprefix_any l at_ hl
 obtain ⟨w,hw⟩:∃ w:Nat,widthA p.ad=(w:Int):=⟨(widthA p.ad).toNat,by unfold widthA;cases p.ad.v6<;>rfl⟩
 have hwb:w=32∧p.ad.v6=false∨w=128∧p.ad.v6=true:=by
  unfold widthA at hw
  cases h:p.ad.v6<;>rw [h] at hw<;>simp at hw
  ·exact .inl ⟨by omega,rfl⟩
  ·exact .inr ⟨by omega,rfl⟩
 refine Wq<|qW 1 2 rfl<|qB rfl ty40<|Nl<|Wq<|qW 6 10 rfl<|qM rfl<|Od rfl rfl (C1 (fr:=[]) rfl rfl (hda) fok37 (.own rfl rfl .nil) rfl rfl rfl (Cn _ _) (by decide) rfl)<|qB rfl ty38<|qS rfl ty38 (Sl rfl) rfl<|Nl<|Wq<|qW 14 15 rfl<|qA rfl<|Nl<|Wq<|Wq<|qW 19 22 rfl<|qF rfl ty38 rfl<|qF rfl ty36 rfl<|qL rfl ty4 rfl<|Nl ?_
 rcases hwb with ⟨e,hv6⟩|⟨e,hv6⟩
 case' inl =>
  refine Wo rfl (hv6)<|Wu ?_
  rw [show (32:Int)=((w:Nat):Int) from by rw [e];rfl]
 case' inr =>
  refine Wt rfl (hv6)<|qW 26 27 rfl<|qA rfl<|Nl ?_
  rw [show (128:Int)=((w:Nat):Int) from by rw [e];rfl]
 all_goals
  have hlen:=hp.le
  have hge:=hp.ge
  rw [hw] at hlen
  have hw128:32≤w∧w≤128:=by omega
  obtain ⟨a1,ha1⟩:∃ a1,nextAt l a0=a1:=⟨_,rfl⟩
  obtain ⟨a2,ha2⟩:∃ a2,nextAt l a1=a2:=⟨_,rfl⟩
  obtain ⟨x,hx,bx⟩:=nextN l a0 4 (by decide)
  obtain ⟨y,hy,by_⟩:=nextN l a1 4 (by decide)
  obtain ⟨z,hz,bz⟩:=nextN l a2 5 (by decide)
  have n1:=next_any l a0 4 (by decide) (by decide) hl
  have n2:=next_any l a1 4 (by decide) (by decide) hl
  have n3:=next_any l a2 5 (by decide) (by decide) hl
  rw [show nextV l a0 4=x from hx,ha1] at n1
  rw [show nextV l a1 4=y from hy,ha2] at n2
  rw [show nextV l a2 5=z from hz] at n3
  have hxy:(0:Int)≤(x:Int) * (y:Int)∧(x:Int) * (y:Int)≤9:=by
   rcases (show x=0∨x=1∨x=2∨x=3 by omega) with rfl|rfl|rfl|rfl<;>omega
  repeat (refine Wq ?_)
  refine Wd 31 47 (by decide) rfl mixed rfl<|qG rfl ty38 rfl (Tl rfl)<|qM rfl<|qF rfl ty38 rfl<|qL rfl ty3 rfl<|qM rfl<|Od rfl rfl (C1 (fr:=[]) rfl rfl (n1) fok21 (.own rfl rfl (.cons rfl (.pure rfl) .nil)) rfl rfl rfl (Cn _ _) (by decide) rfl)<|qM rfl<|Od rfl rfl (C1 (fr:=[]) rfl rfl (n2) fok21 (.own rfl rfl (.cons rfl (.pure rfl) .nil)) rfl rfl rfl (Cn _ _) (by decide) rfl)<|Od rfl rfl (LO.mul_in rfl rfl rfl (iW _ (by omega)))<|qZ rfl (iW _ (by omega))<|Od rfl rfl (LO.min rfl rfl rfl)<|qM rfl<|Od rfl rfl (C1 (fr:=[]) rfl rfl (n3) fok21 (.own rfl rfl (.cons rfl (.pure rfl) .nil)) rfl rfl rfl (Cn _ _) (by decide) rfl)<|qZ rfl (iW _ (by omega))<|Od rfl rfl (Bs rfl ty40 (.cons rfl rfl rfl rfl (Sl rfl) (.cons rfl rfl rfl rfl (Sl rfl) (.cons rfl rfl rfl rfl (Sl rfl) .nil))))<|qS rfl ty40 (Sl rfl) rfl<|Nl ⟨by kernel_rfl,(Wz ⟨.inl rfl,_,(up mt 0 (some (deckC l (nextAt l a2)))),(Rc (Ra0 rfl rfl ty40 rfl (Tl rfl)) Rv),(aU rfl aM),?_⟩)⟩
  refine ⟨⟨p,_,1 + (z:Int)⟩,_,⟨hp,?_,?_,?_,?_,(by show (1:Int)≤1 + (z:Int);omega),(by show 1 + (z:Int)≤5;omega)⟩,rfl,rfl⟩
  ·show (0:Int)≤if p.len + (x:Int) * (y:Int) < (w:Int) then p.len + (x:Int) * (y:Int) else (w:Int)
   split<;>omega
  ·show (if p.len + (x:Int) * (y:Int) < (w:Int) then p.len + (x:Int) * (y:Int) else (w:Int))≤128
   split<;>omega
  ·show p.len≤if p.len + (x:Int) * (y:Int) < (w:Int) then p.len + (x:Int) * (y:Int) else (w:Int)
   split<;>omega
  ·show (if p.len + (x:Int) * (y:Int) < (w:Int) then p.len + (x:Int) * (y:Int) else (w:Int))≤widthA p.ad
   split<;>omega
end Go.Proofs.YtbfnfgpjgdbmeaaGreatDoor
