/-
  The bytes of an address: both texts. Prefixes: the document's making of one, whether it holds an address, its last address. Small functions of databases: whether an address is none, all members in a row. Nothing occurs twice in a database: the document's test says so. Names, stations, ports that are right by themselves. Databases that the document's check lets pass. The document's check lets a right database pass. The ports of a database, the owner of one. The document's rules of the ports. The document's bindings of the ports. Numbers of two bytes, joining rows of bytes, stations. The check sum of data between two addresses: both texts. The document's check sum; the fixed bytes of a message; the packet with a message, by the program. The packet with a message, by the program.
-/
import Derived.Test.YtlcndmciognneaaGreatDoorQe
import Derived.Test.YtlcndmciognneaaGreatDoorMab
namespace Go.Proofs.YtlcndmciognneaaGreatDoor
open Go.RowKit
def bufB (n j:Nat) (N:Int):List Int:=(List.range n).map fun p=>if p < n - j then 0 else byteN N (n - 1 - p)
theorem bufB_len (n j:Nat) (N:Int):(bufB n j N).length=n:=by simp [bufB]
theorem bufB_zero (n:Nat) (N:Int):bytesC (bufB n 0 N)=zerosL n [.base (.int .u8 0)]:=by
 unfold bufB bytesC zerosL
 rw [List.map_map]
 refine List.ext_getElem (by simp) fun k h1 h2=>?_
 simp at h1
 simp [h1]
theorem bufB_full (n:Nat) (N:Int):bufB n n N=beN n N:=by
 unfold bufB beN
 refine List.map_congr_left fun p _=>?_
 simp
theorem bufB_set {n j:Nat} {N x:Int} (hj:j < n) (hx:x=byteN N j):(bufB n j N).set (n - 1 - j) x=bufB n (j + 1) N:=by
 refine List.ext_getElem (by simp [bufB]) fun k h1 h2=>?_
 simp only [bufB,List.getElem_set,List.getElem_map,List.getElem_range]
 have hk:k < n:=by simpa [bufB] using h2
 by_cases e:n - 1 - j=k
 ·rw [if_pos e,if_neg (by omega),hx,show n - 1 - k=j from by omega]
 ·rw [if_neg e]
  by_cases h3:k < n - j
  ·rw [if_pos h3,if_pos (by omega)]
  ·rw [if_neg h3,if_neg (by omega)]
theorem by_sp {l:List Int} {k:Nat} {v:Int} (h:k < l.length):Sp (bytesC l) (0 + k * 1) [.base (.int .u8 v)] (bytesC (l.set k v)):=by
 have:=Sp.set (bytesC l) k (.base (.int .u8 v)) (by rwa [bytesC_len])
 rw [show bytesC (l.set k v)=(bytesC l).set k (.base (.int .u8 v)) from by simp [bytesC,List.map_set]]
 simpa using this
def numA (a:Ad):Int:=a.hi * 18446744073709551616 + a.lo
def addrL (a:Ad):List Int:=addrB a.v6 a.hi a.lo
theorem addrL_len (a:Ad):(addrL a).length=if a.v6 then 16 else 4:=addrB_len _ _ _
theorem addrL_isB (a:Ad):IsB (addrL a):=by unfold addrL addrB;exact beN_isB _ _
theorem or_split (p:Ad) (h1:U64 p.hi) (h2:U64 p.lo):bitV .or .u64 (p.lo.fdiv (2 ^ (min (8:Int).toNat IntKind.u64.bits))) (IntKind.u64.wrap (p.hi * 2 ^ (min (56:Int).toNat IntKind.u64.bits)))=p.lo / 256 + p.hi % 256 * 72057594037927936:=by
 rw [show (2:Int) ^ (min (8:Int).toNat IntKind.u64.bits)=256 from by decide,show (2:Int) ^ (min (56:Int).toNat IntKind.u64.bits)=72057594037927936 from by decide,Int.fdiv_eq_ediv_of_nonneg _ (by decide)]
 exact u64_or_split h1.1 h2.1 h2.2
theorem byte_lo (p:Ad):IntKind.u8.wrap p.lo=numA p % 256:=by rw [IntKind.wrap_u8'];unfold numA;omega
theorem bytes_any (a:Ad) (hv:validA a.v6 a.hi a.lo=true) (h1:U64 a.hi) (h2:U64 a.lo):AFn Tryz.prog 180 0 [.agg (adC a)] mt (.osl 0 0 (addrL a).length 1) (up mt 0 (some (bytesC (addrL a)))):=by
 refine AFn.eq Tryz.func180 rfl rfl (Nat.le_of_ble_eq_true rfl) ?_
 have hav:=avalid_any a
 rw [hv] at hav
 obtain ⟨n,hn⟩:∃ n,(if a.v6 then 16 else 4)=n:=⟨_,rfl⟩
 have hlen:(addrL a).length=n:=by rw [addrL_len,hn]
 have hbe:addrL a=beN n (numA a):=by unfold addrL addrB;rw [hn];rfl
 rw [hlen]
 obtain ⟨N,hN⟩:∃ N,numA a=N:=⟨_,rfl⟩
 rw [hN] at hbe
 have hn16:1≤n∧n≤16:=by rw [← hn];split<;>omega
 refine Wq<|qW 0 2 rfl<|qC rfl<|qA rfl<|Nl<|Wq<|Wq<|qW 6 9 rfl<|qG rfl ty54 rfl (Tl rfl)<|qY rfl (hav) fok174 rfl<|qO rfl<|Nl<|Wo rfl rfl<|Wu<|Wq<|qW 18 19 rfl<|qA rfl<|Nl ?_
 have hnc:a.v6=true∧n=16∨a.v6=false∧n=4:=by
  cases hb:a.v6<;>rw [hb] at hn<;>simp at hn
  ·exact .inr ⟨rfl,hn.symm⟩
  ·exact .inl ⟨rfl,hn.symm⟩
 unfold adC
 refine Wq<|Wq<|qW 23 25 rfl<|qF rfl ty54 rfl<|qL rfl ty4 rfl<|Nl ?_
 rcases hnc with ⟨hb,hn4⟩|⟨hb,hn4⟩
 case' inl =>
  refine Wt rfl ‹_›<|qW 29 30 rfl<|qA rfl<|Nl ?_
  rw [show (16:Int)=((n:Nat):Int) from by rw [hn4];rfl]
 case' inr =>
  refine Wo rfl ‹_›<|Wu ?_
  rw [show (4:Int)=((n:Nat):Int) from by rw [hn4];rfl]
 all_goals
  repeat (refine Wq ?_)
  refine qW 34 37 rfl<|qM rfl<|Od rfl rfl (LO.makeSlice rfl rfl rfl rfl rfl ty24 ty5 (by decide) (by omega) (by omega) (by omega))<|qA rfl<|Nl ?_
  rw [← bufB_zero n N]
  repeat (refine Wq ?_)
  refine qW 41 44 rfl<|qM rfl<|Od rfl rfl (LO.sub_in rfl rfl rfl (iW _ (by omega)))<|qA rfl<|Nl ?_
  rw [show (n:Int) - 1=((n:Nat):Int) - 1 - ((0:Nat):Int) from by omega]
  refine Wb<|W.loop_keep (α:=Nat × Ad) (fun x=>n - x.1) 2 (fun x=>[(1,.own 0 0),(4,.osl 1 0 n 1),(5,.base (.int .i64 ((n:Int) - 1 - (x.1:Int))))]) (fun x=>up (up mt 0 (some (adC x.2))) 1 (some (bytesC (bufB n x.1 N)))) (fun x=>(x.1≤n∧U64 x.2.hi∧U64 x.2.lo)∧numA x.2=N / 256 ^ x.1) (0,a) [(0,0),(1,35)] .nil (show (0≤n∧U64 a.hi∧U64 a.lo)∧numA a=N / 256 ^ 0 from ⟨⟨Nat.zero_le _,h1,h2⟩,by rw [hN];simp⟩) (by decide) ?_ ?_ ?_
  ·exact lC (lI rfl) (lC (lI rfl) (lC (lR rfl) lN))
  ·exact aU (kP rfl (bytesC_pure _)) (aU (kR rfl) aM)
  rintro ⟨j,p⟩ hIA ihA
  try (dsimp only at hIA)
  try dsimp only [baseT,List.cons_append,List.nil_append]
  obtain ⟨⟨hj,k1,k2⟩,hq⟩:=hIA
  by_cases hc:j < n
  ·have g1:decide ((n:Int) - 1 - (j:Int) ≥ 0)=true:=decide_eq_true (by omega)
   have hbl:=byte_lo p
   have hby:IntKind.u8.wrap p.lo=byteN N j:=by rw [hbl,hq];rfl
   have hset:=bufB_set hc hby
   have e1:=or_split p k1 k2
   have e2:p.hi.fdiv (2 ^ (min (8:Int).toNat IntKind.u64.bits))=p.hi / 256:=by
    rw [show (2:Int) ^ (min (8:Int).toNat IntKind.u64.bits)=256 from by decide];exact Int.fdiv_eq_ediv_of_nonneg _ (by decide)
   have hnn:=beN_N p.hi p.lo k2.1 k2.2
   unfold U64 at k1 k2
   repeat (refine Wq ?_)
   refine qW 48 50 rfl<|qM rfl<|qGe rfl<|Nl<|Wt rfl ‹_›<|Wu ?_
   repeat (refine Wq ?_)
   refine Wb ?_
   unfold adC
   repeat (refine Wq ?_)
   refine qW 54 61 rfl<|qM rfl<|qM rfl<|qF rfl ty54 rfl<|qL rfl ty52 rfl<|Od rfl rfl (LO.conv rfl rfl ty52 ty5)<|Od rfl rfl (Ia rfl rfl rfl (show (n:Int) - 1 - (j:Int)=((n - 1 - j:Nat):Int) from by omega) ty24 ty5 (by omega))<|qS rfl ty5 (by_sp (by rw [bufB_len];omega)) rfl<|Nl ?_
   rw [hset]
   repeat (refine Wq ?_)
   refine qW 65 74 rfl<|qF rfl ty54 rfl<|qL rfl ty52 rfl<|Od rfl rfl (LO.shr rfl rfl rfl (by omega))<|qF rfl ty54 rfl<|qL rfl ty52 rfl<|Od rfl rfl (LO.shl rfl rfl rfl (by omega))<|Od rfl rfl (LO.or rfl rfl rfl)<|qF rfl ty54 rfl<|qS rfl ty52 (Sl rfl) rfl<|Nl ?_
   rw [e1]
   refine qW 78 83 rfl<|qF rfl ty54 rfl<|qL rfl ty52 rfl<|Od rfl rfl (LO.shr rfl rfl rfl (by omega))<|qF rfl ty54 rfl<|qS rfl ty52 (Sl rfl) rfl<|Nl ?_
   rw [e2]
   refine qW 87 90 rfl<|qM rfl<|Od rfl rfl (LO.sub_in rfl rfl rfl (iW _ (by omega)))<|qA rfl<|Nl ?_
   rw [show (n:Int) - 1 - (j:Int) - 1=(n:Int) - 1 - ((j + 1:Nat):Int) from by omega]
   refine WL.renameL [(0,0),(1,1)] 2 (by decide) ?_ ?_ (ihA ((j + 1),(Ad.mk p.v6 (p.hi / 256) (p.lo / 256 + p.hi % 256 * 72057594037927936))) (show n - (j + 1) < n - j from by omega) (show ((j + 1)≤n∧U64 (Ad.mk p.v6 (p.hi / 256) (p.lo / 256 + p.hi % 256 * 72057594037927936)).hi∧U64 (Ad.mk p.v6 (p.hi / 256) (p.lo / 256 + p.hi % 256 * 72057594037927936)).lo)∧numA (Ad.mk p.v6 (p.hi / 256) (p.lo / 256 + p.hi % 256 * 72057594037927936))=N / 256 ^ (j + 1) from ⟨⟨by omega,by unfold U64;dsimp only;omega,by unfold U64;dsimp only;omega⟩,by rw [div_succ,← hq];exact hnn.symm⟩))
   ·exact lC (lI rfl) (lC (lI rfl) (lC (lR rfl) lN))
   ·exact aU (kP rfl (bytesC_pure _)) (aU (kR rfl) aM)
  ·have g1:decide ((n:Int) - 1 - (j:Int) ≥ 0)=false:=decide_eq_false (by omega)
   repeat (refine Wq ?_)
   refine qW 48 50 rfl<|qM rfl<|qGe rfl<|Nl<|Wo rfl ‹_›<|Wx ?_
   obtain rfl:j=n:=by omega
   repeat (refine Wq ?_)
   refine qW 94 96 rfl<|qM rfl<|qA rfl<|Nl ?_
   rw [bufB_full,← hbe]
   refine W.rename [(0,1)] 1 (T':=up mt 2 (some (.osl 0 0 (j) 1))) (H':=up mt 0 (some (bytesC (addrL a)))) (by decide) ?_ ?_ ?_
   ·exact aU (lI rfl) aM
   ·exact aU (kP rfl (bytesC_pure _)) aM
   refine Wz ⟨.inl rfl,_,up mt 0 (some (bytesC (addrL a))),Rc (Rt0 rfl) Rv,aU rfl aM,?_⟩
   exact ⟨rfl,rfl⟩
theorem bytesX_any (a:Ad) (hv:validA a.v6 a.hi a.lo=true) (_h1:U64 a.hi) (h2:U64 a.lo):AFn Tryz.prog 85 0 [.agg (adC a)] mt (.osl 0 0 (addrL a).length 1) (up mt 0 (some (bytesC (addrL a)))):=by
 refine AFn.eq Tryz.func85 rfl rfl (Nat.le_of_ble_eq_true rfl) ?_
 have hav:=rvalid_any a
 rw [hv] at hav
 obtain ⟨n,hn⟩:∃ n,(if a.v6 then 16 else 4)=n:=⟨_,rfl⟩
 have hlen:(addrL a).length=n:=by rw [addrL_len,hn]
 have hbe:addrL a=beN n (numA a):=by unfold addrL addrB;rw [hn];rfl
 have hpn:preB n n (numA a)=beN n (numA a):=rfl
 rw [hlen]
 have hn16:1≤n∧n≤16:=by rw [← hn];split<;>omega
 have hba:=fun i hi=>byteN_at a.hi a.lo h2.1 h2.2 i hi
 refine Wq<|qW 0 2 rfl<|qC rfl<|qA rfl<|Nl<|Wq<|Wq<|qW 6 9 rfl<|qG rfl ty54 rfl (Tl rfl)<|qY rfl (hav) fok125 rfl<|qO rfl<|Nl<|Wo rfl rfl<|Wu<|Wq<|qW 18 19 rfl<|qA rfl<|Nl ?_
 have hnc:a.v6=true∧n=16∨a.v6=false∧n=4:=by
  cases hb:a.v6<;>rw [hb] at hn<;>simp at hn
  ·exact .inr ⟨rfl,hn.symm⟩
  ·exact .inl ⟨rfl,hn.symm⟩
 unfold adC
 refine Wq<|Wq<|qW 23 25 rfl<|qF rfl ty54 rfl<|qL rfl ty4 rfl<|Nl ?_
 rcases hnc with ⟨hb,hn4⟩|⟨hb,hn4⟩
 case' inl =>
  refine Wt rfl ‹_›<|qW 29 30 rfl<|qA rfl<|Nl ?_
  rw [show (16:Int)=((n:Nat):Int) from by rw [hn4];rfl]
 case' inr =>
  refine Wo rfl ‹_›<|Wu ?_
  rw [show (4:Int)=((n:Nat):Int) from by rw [hn4];rfl]
 all_goals
  repeat (refine Wq ?_)
  refine qW 34 35 rfl<|qA rfl<|Nl ?_
  repeat (refine Wq ?_)
  refine qW 39 42 rfl<|qM rfl<|Od rfl rfl (LO.sub_in rfl rfl rfl (iW _ (by omega)))<|qA rfl<|Nl<|W.name 42 (42 + 1) (t:=4) (sz:=1) rfl (by decide) (by decide) ?_
  rw [show (n:Int) - 1=((n:Nat):Int) - 1 - ((0:Nat):Int) from by omega]
  refine Wb<|W.loop_keep (α:=Nat) (fun x=>n - x) 2 (fun x=>[(1,.own 0 0),(4,.osl 1 0 (preB n x (numA a)).length 1),(5,.base (.int .i64 ((n:Int) - 1 - (x:Int))))]) (fun x=>up (up mt 0 (some (adC a))) 1 (some (bytesC (preB n x (numA a))))) (fun x=>x≤n) 0 [(0,0),(1,42)] .nil (show 0≤n from Nat.zero_le _) (by decide) ?_ ?_ ?_
  ·exact lC (lI rfl) (lC (lI rfl) (lC (lR rfl) lN))
  ·exact aU (kR rfl) (aU (kR rfl) aM)
  rintro j hIA ihA
  try (dsimp only at hIA)
  try dsimp only [baseT,List.cons_append,List.nil_append]
  have hpl:=preB_len n j (numA a)
  by_cases hc:j < n
  ·have g1:decide ((n:Int) - 1 - (j:Int) ≥ 0)=true:=decide_eq_true (by omega)
   have hsn:=preB_snoc n j (numA a)
   obtain ⟨q,hqe⟩:∃ q,n - 1 - j=q:=⟨_,rfl⟩
   have hqi:(n:Int) - 1 - (j:Int)=(q:Int):=by omega
   have hba:=hba q (by omega)
   rw [hqe] at hsn
   have hmod:(8:Int) * ((q:Int) % 8)=((8 * (q % 8):Nat):Int):=by omega
   have hsh:∀ w:Int,IntKind.u8.wrap (w.fdiv (2 ^ (min (((8 * (q % 8):Nat):Int)).toNat IntKind.u64.bits)))=w / 2 ^ (8 * (q % 8)) % 256:=fun w=>by
    rw [Int.toNat_natCast,Nat.min_eq_left (show 8 * (q % 8)≤IntKind.u64.bits from by show _≤64;omega),Int.fdiv_eq_ediv_of_nonneg _ (Int.le_of_lt (Int.pow_pos (by decide))),IntKind.wrap_u8']
   rw [hqi]
   rw [hqi] at g1
   unfold adC
   repeat (refine Wq ?_)
   refine qW 46 48 rfl<|qM rfl<|qGe rfl<|Nl<|Wt rfl rfl<|Wu ?_
   repeat (refine Wq ?_)
   refine Wb ?_
   repeat (refine Wq ?_)
   refine qW 52 55 rfl<|qF rfl ty54 rfl<|qL rfl ty52 rfl<|qA rfl<|Nl ?_
   by_cases h8:8≤q
   ·have g2:decide ((q:Int) ≥ 8)=true:=decide_eq_true (by omega)
    rw [if_pos h8] at hba
    have hfin:IntKind.u8.wrap ((a.hi).fdiv (2 ^ (min (((8 * (q % 8):Nat):Int)).toNat IntKind.u64.bits)))=byteN (numA a) q:=by rw [hsh,hba];rfl
    repeat (refine Wq ?_)
    refine qW 59 61 rfl<|qM rfl<|qGe rfl<|Nl<|Wt rfl ‹_›<|qW 65 68 rfl<|qF rfl ty54 rfl<|qL rfl ty52 rfl<|qA rfl<|Nl<|qW 72 83 rfl<|qM rfl<|qM rfl<|qM rfl<|Od rfl rfl (LO.rem_in rfl rfl rfl (by omega) (by omega))<|Od rfl rfl (Ci rfl rfl ty3 ty129 (IntWalk.u64_in _ (by omega)))<|Od rfl rfl (LO.mul_in rfl rfl rfl (IntWalk.u64_in _ (by omega))) ?_
    rw [hmod]
    refine Od rfl rfl (LO.shr rfl rfl rfl (by omega))<|Od rfl rfl (LO.conv rfl rfl ty52 ty5) ?_
    rw [hfin]
    refine Od rfl rfl (LO.buildSlice rfl ty24 ty5 (by decide) (by decide) (.cons rfl rfl rfl rfl (Sl rfl) .nil))<|Od rfl rfl (Lap rfl rfl (Sso rfl rfl (Tl rfl)) rfl (bytes_tk rfl) ty24 ty24 ty5 (by decide) (by omega) (by omega) (by decide))<|qA rfl<|Nl ?_
    rw [show bytesC (preB n j (numA a))++[AV.base (.int .u8 (byteN (numA a) q))]=bytesC (preB n (j + 1) (numA a)) from by rw [hsn,bytesC_app];rfl,show (preB n j (numA a)).length + 1=(preB n (j + 1) (numA a)).length from by rw [preB_len,preB_len]]
    refine qW 87 90 rfl<|qM rfl<|Od rfl rfl (LO.sub_in rfl rfl rfl (iW _ (by omega)))<|qA rfl<|Nl ?_
    rw [show (q:Int) - 1=(n:Int) - 1 - ((j + 1:Nat):Int) from by omega]
    refine WL.renameL [(0,0),(1,81)] 2 (by decide) ?_ ?_ (ihA (j + 1) (show n - (j + 1) < n - j from by omega) (show (j + 1)≤n from by omega))
    ·exact lC (lI rfl) (lC (lI rfl) (lC (lR rfl) lN))
    ·exact aU (kP rfl (bytesC_pure _)) (aU (kR rfl) aM)
   ·have g2:decide ((q:Int) ≥ 8)=false:=decide_eq_false (by omega)
    rw [if_neg h8] at hba
    have hfin:IntKind.u8.wrap ((a.lo).fdiv (2 ^ (min (((8 * (q % 8):Nat):Int)).toNat IntKind.u64.bits)))=byteN (numA a) q:=by rw [hsh,hba];rfl
    repeat (refine Wq ?_)
    refine qW 59 61 rfl<|qM rfl<|qGe rfl<|Nl<|Wo rfl ‹_›<|Wu<|qW 72 83 rfl<|qM rfl<|qM rfl<|qM rfl<|Od rfl rfl (LO.rem_in rfl rfl rfl (by omega) (by omega))<|Od rfl rfl (Ci rfl rfl ty3 ty129 (IntWalk.u64_in _ (by omega)))<|Od rfl rfl (LO.mul_in rfl rfl rfl (IntWalk.u64_in _ (by omega))) ?_
    rw [hmod]
    refine Od rfl rfl (LO.shr rfl rfl rfl (by omega))<|Od rfl rfl (LO.conv rfl rfl ty52 ty5) ?_
    rw [hfin]
    refine Od rfl rfl (LO.buildSlice rfl ty24 ty5 (by decide) (by decide) (.cons rfl rfl rfl rfl (Sl rfl) .nil))<|Od rfl rfl (Lap rfl rfl (Sso rfl rfl (Tl rfl)) rfl (bytes_tk rfl) ty24 ty24 ty5 (by decide) (by omega) (by omega) (by decide))<|qA rfl<|Nl ?_
    rw [show bytesC (preB n j (numA a))++[AV.base (.int .u8 (byteN (numA a) q))]=bytesC (preB n (j + 1) (numA a)) from by rw [hsn,bytesC_app];rfl,show (preB n j (numA a)).length + 1=(preB n (j + 1) (numA a)).length from by rw [preB_len,preB_len]]
    refine qW 87 90 rfl<|qM rfl<|Od rfl rfl (LO.sub_in rfl rfl rfl (iW _ (by omega)))<|qA rfl<|Nl ?_
    rw [show (q:Int) - 1=(n:Int) - 1 - ((j + 1:Nat):Int) from by omega]
    refine WL.renameL [(0,0),(1,81)] 2 (by decide) ?_ ?_ (ihA (j + 1) (show n - (j + 1) < n - j from by omega) (show (j + 1)≤n from by omega))
    ·exact lC (lI rfl) (lC (lI rfl) (lC (lR rfl) lN))
    ·exact aU (kP rfl (bytesC_pure _)) (aU (kR rfl) aM)
  ·have g1:decide ((n:Int) - 1 - (j:Int) ≥ 0)=false:=decide_eq_false (by omega)
   repeat (refine Wq ?_)
   refine qW 46 48 rfl<|qM rfl<|qGe rfl<|Nl<|Wo rfl ‹_›<|Wx ?_
   obtain rfl:j=n:=by omega
   rw [preB_len,hpn,← hbe]
   repeat (refine Wq ?_)
   refine qW 94 96 rfl<|qM rfl<|qA rfl<|Nl<|W.rename [(0,1)] 1 (T':=up mt 2 (some (.osl 0 0 (j) 1))) (H':=up mt 0 (some (bytesC (addrL a)))) (by decide) ?_ ?_ ?_
   ·exact aU (lI rfl) aM
   ·exact aU (kP rfl (bytesC_pure _)) aM
   refine Wz ⟨.inl rfl,_,up mt 0 (some (bytesC (addrL a))),Rc (Rt0 rfl) Rv,aU rfl aM,?_⟩
   exact ⟨rfl,rfl⟩
def widthA (a:Ad):Int:=if a.v6 then 128 else 32
def lan4:Pre:=⟨⟨false,0,3221225984⟩,24⟩
def lan6:Pre:=⟨⟨true,2306139568115548160,0⟩,64⟩
theorem lan4_any:AFn Tryz.prog 19 0 [] mt (.agg (preC lan4)) mt:=by
 refine AFn.eq Tryz.func19 rfl rfl (Nat.le_of_ble_eq_true rfl)<|Wq<|qW 0 1 rfl<|qB rfl ty56<|Nl<|Wq<|qW 5 8 rfl<|Od rfl rfl (Bs rfl ty54 (.cons rfl rfl rfl rfl (Sl rfl) .nil))<|Od rfl rfl (Bs rfl ty56 (.cons rfl rfl rfl rfl (Sl rfl) (.cons rfl rfl rfl rfl (Sl rfl) .nil)))<|qS rfl ty56 (Sl rfl) rfl<|Nl<|Wz ⟨.inl rfl,_,mt,(Rc (Ra0 rfl rfl ty56 rfl (Tl rfl)) Rv),aM,?_⟩
 exact ⟨rfl,rfl⟩
theorem lan6_any:AFn Tryz.prog 20 0 [] mt (.agg (preC lan6)) mt:=by
 refine AFn.eq Tryz.func20 rfl rfl (Nat.le_of_ble_eq_true rfl)<|Wq<|qW 0 1 rfl<|qB rfl ty56<|Nl<|Wq<|qW 5 8 rfl<|Od rfl rfl (Bs rfl ty54 (.cons rfl rfl rfl rfl (Sl rfl) (.cons rfl rfl rfl rfl (Sl rfl) .nil)))<|Od rfl rfl (Bs rfl ty56 (.cons rfl rfl rfl rfl (Sl rfl) (.cons rfl rfl rfl rfl (Sl rfl) .nil)))<|qS rfl ty56 (Sl rfl) rfl<|Nl<|Wz ⟨.inl rfl,_,mt,(Rc (Ra0 rfl rfl ty56 rfl (Tl rfl)) Rv),aM,?_⟩
 exact ⟨rfl,rfl⟩
def fourA (n:Int):Ad:=⟨false,0,3221225985 + n⟩
def sixA (n:Int):Ad:=⟨true,2306139568115548160,1 + n⟩
theorem fourM_any (n:Int) (h0:0≤n) (h1:n≤1000):AFn Tryz.prog 95 0 [.base (.int .i64 n)] mt (.agg (adC (fourA n))) mt:=by
 refine AFn.eq Tryz.func95 rfl rfl (Nat.le_of_ble_eq_true rfl)<|Wq<|qW 0 1 rfl<|qB rfl ty54<|Nl<|Wq<|qW 5 11 rfl<|qM rfl<|qZ rfl (iW _ (by omega))<|Od rfl rfl (Ci rfl rfl ty3 ty52 (IntWalk.u64_in _ (by omega)))<|qZ rfl (IntWalk.u64_in _ (by omega))<|Od rfl rfl (Bs rfl ty54 (.cons rfl rfl rfl rfl (Sl rfl) .nil))<|qS rfl ty54 (Sl rfl) rfl<|Nl<|Wz ⟨.inl rfl,_,mt,(Rc (Ra0 rfl rfl ty54 rfl (Tl rfl)) Rv),aM,?_⟩
 exact ⟨by rw [show (3221225984:Int) + (1 + n)=3221225985 + n from by omega];rfl,rfl⟩
theorem sixM_any (n:Int) (h0:0≤n) (h1:n≤1000):AFn Tryz.prog 100 0 [.base (.int .i64 n)] mt (.agg (adC (sixA n))) mt:=by
 refine AFn.eq Tryz.func100 rfl rfl (Nat.le_of_ble_eq_true rfl)<|Wq<|qW 0 1 rfl<|qB rfl ty54<|Nl<|Wq<|qW 5 10 rfl<|qM rfl<|qZ rfl (iW _ (by omega))<|Od rfl rfl (Ci rfl rfl ty3 ty52 (IntWalk.u64_in _ (by omega)))<|Od rfl rfl (Bs rfl ty54 (.cons rfl rfl rfl rfl (Sl rfl) (.cons rfl rfl rfl rfl (Sl rfl) (.cons rfl rfl rfl rfl (Sl rfl) .nil))))<|qS rfl ty54 (Sl rfl) rfl<|Nl<|Wz ⟨.inl rfl,_,mt,(Rc (Ra0 rfl rfl ty54 rfl (Tl rfl)) Rv),aM,?_⟩
 exact ⟨rfl,rfl⟩
def zeroA (a:Ad):Bool:=eqA a ⟨false,0,0⟩
theorem memsC_len (l:List Mem):(memsC l).length=l.length * 6:=by
 induction l with
 | nil=>rfl
 | cons x l ih=>rw [show memsC (x::l)=memC x++memsC l from rfl,List.length_append,ih,show (memC x).length=6 from rfl,List.length_cons];omega
theorem memsC_pure (l:List Mem):(memsC l).all AV.pure1=true:=by
 induction l with
 | nil=>rfl
 | cons x l ih=>rw [show memsC (x::l)=memC x++memsC l from rfl,List.all_append,ih];rfl
theorem mems_all {l:List Mem} {n:Nat} (h:l.length=n):Tk (memsC l) 0 (n * 6) (memsC l):=by
 have:=Tk.all (memsC l)
 rwa [memsC_len,h] at this
def asnV (m:Mem):Value:=.int .i64 m.asn
def nameV (m:Mem):Value:=.string m.name
def idV (p:Prt):Value:=.int .i64 p.id
def adsP (p:Prt):List Ad:=(if zeroA p.v4=true then [] else [p.v4])++(if zeroA p.v6=true then [] else [p.v6])
def macsV (l:List Prt):List Value:=(l.flatMap (·.macs)).map macV
def allP (d:Db):List Prt:=(d.servers++d.members).flatMap (·.ports)
structure PrtIn (p:Prt):Prop where
 id:-9223372036854775808≤p.id∧p.id≤9223372036854775807
 nm:p.macs.length≤1000
 macs:∀ m,m∈p.macs→m.length=6∧∀ x,x∈m→0≤x∧x≤255
 h4:0≤p.v4.hi∧p.v4.hi≤18446744073709551615
 l4:0≤p.v4.lo∧p.v4.lo≤18446744073709551615
 h6:0≤p.v6.hi∧p.v6.hi≤18446744073709551615
 l6:0≤p.v6.lo∧p.v6.lo≤18446744073709551615
structure Once (d:Db):Prop where
 sl:d.servers.length≤1000
 ml:d.members.length≤1000
 asn:∀ m,m∈d.servers++d.members→-9223372036854775808≤m.asn∧m.asn≤9223372036854775807
 name:∀ m,m∈d.servers++d.members→m.name.size≤maxLen
 np:∀ m,m∈d.servers++d.members→m.ports.length≤1000
 prt:∀ p,p∈allP d→PrtIn p
 same:∀ m,m∈d.servers→∀ h:0 < d.servers.length,m.asn=d.servers[0].asn
 asnM:∀ m,m∈d.members→∀ s,s∈d.servers→m.asn≠s.asn
 asnN:(d.members.map (·.asn)).Nodup
 names:((d.servers++d.members).map (·.name)).Nodup
 ids:((allP d).map (·.id)).Nodup
 macs:((allP d).flatMap (·.macs)).Nodup
 ads:((allP d).flatMap adsP).Nodup
theorem kd_i64w {P:Program} {t:TypeId} (hq:P.underlying t=some (.int .i64)) {i:Int} (h:-9223372036854775808≤i∧i≤9223372036854775807):kdOf P t (.int .i64 i):=kd_int hq (by
 unfold Lit.wf
 simp only [IntKind.min,IntKind.max,IntKind.signed,IntKind.bits,Bool.and_eq_true,decide_eq_true_eq]
 constructor
 ·have:-(2 ^ (64 - 1):Int)≤i:=by omega
  simpa using this
 ·have:i≤(2 ^ (64 - 1):Int) - 1:=by omega
  simpa using this)
theorem take_snoc {α β:Type} (g:α→β) {l:List α} {i:Nat} (h:i < l.length):(l.take (i + 1)).map g=(l.take i).map g++[g l[i]]:=by
 rw [List.take_add_one,List.map_append]
 simp [h]
theorem sp_all {cs ns:List AV} (h:ns.length=cs.length):Sp cs 0 ns ns:=⟨by omega,h,fun j c hj=>.inl ⟨Nat.zero_le _,by simpa using hj⟩⟩
theorem nodup_mid {α:Type} {X Y:List α} {a:α} (h:(X++a::Y).Nodup):a ∉ X:=fun ha=>by
 rw [List.nodup_append] at h
 exact h.2.2 a ha a (by simp) rfl
theorem adV_inj {a b:Ad} (h:adV a=adV b):a=b:=by
 unfold adV at h
 simp at h
 cases a;cases b
 simp_all
theorem macV_inj {a b:List Int} (h:macV a=macV b):a=b:=by
 unfold macV at h
 simp at h
 have:∀ (l m:List Int),l.map (fun x=>Value.int .u8 x)=m.map (fun x=>Value.int .u8 x)→l=m:=by
  intro l
  induction l with
  | nil=>intro m h;cases m with
   | nil=>rfl
   | cons y m=>simp at h
  | cons x l ih=>intro m h;cases m with
   | nil=>simp at h
   | cons y m=>simp at h;rw [h.1,ih m (by simpa using h.2)]
 exact this a b h
theorem not_map {α β:Type} {g:α→β} (hg:∀ x y,g x=g y→x=y) {l:List α} {a:α} (h:a ∉ l):g a ∉ l.map g:=fun hm=>by
 obtain ⟨b,hb,e⟩:=List.mem_map.1 hm
 exact h (hg _ _ e ▸ hb)
theorem mac_not {X rest:List Prt} {p:Prt} (h:((X++p::rest).flatMap (·.macs)).Nodup) {k:Nat} (hk:k < p.macs.length):macV p.macs[k] ∉ macsV X++(p.macs.take k).map macV:=by
 have h2:p.macs=p.macs.take k++p.macs[k]::p.macs.drop (k + 1):=by rw [← List.drop_eq_getElem_cons hk,List.take_append_drop]
 rw [List.flatMap_append,List.flatMap_cons] at h
 have h3:((X.flatMap (·.macs)++p.macs.take k)++p.macs[k]::(p.macs.drop (k + 1)++rest.flatMap (·.macs))).Nodup:=by
  have h4:∀ R:List (List Int),p.macs++R=(p.macs.take k++p.macs[k]::p.macs.drop (k + 1))++R:=fun R=>by rw [← h2]
  rw [h4] at h
  simp only [List.append_assoc,List.cons_append] at h ⊢
  exact h
 unfold macsV
 rw [← List.map_append]
 exact not_map (fun _ _=>macV_inj) (nodup_mid h3)
theorem take_not {α:Type} {l:List α} (h:l.Nodup) {i:Nat} (hi:i < l.length):l[i] ∉ l.take i:=by
 have h1:l=l.take i++l[i]::l.drop (i + 1):=by rw [← List.drop_eq_getElem_cons hi,List.take_append_drop]
 rw [h1] at h
 exact nodup_mid h
def okC (c:Int):Prop:=(97≤c∧c≤122)∨(65≤c∧c≤90)∨(48≤c∧c≤57)∨c=45∨c=58
structure NameOk (s:ByteArray):Prop where
 lo:1≤s.size
 hi:s.size≤32
 ch:∀ (i:Nat) b,s[i]?=some b→okC (b.toNat:Int)
def grpM (m:List Int):Bool:=gB m 0 % 2 == 1
structure PrtOk (p:Prt):Prop where
 id:1≤p.id∧p.id≤999
 sw:0≤p.sw∧p.sw≤7
 speed:1≤p.speed∧p.speed≤400
 nm:1≤p.macs.length∧p.macs.length≤2
 macs:∀ m,m∈p.macs→m.length=6∧IsB m∧grpM m=false∧m≠[0,0,0,0,0,0]
 a4:p.v4=⟨false,0,0⟩∨∃ n:Fin 15,p.v4=fourA (n.val:Int)
 a6:p.v6=⟨false,0,0⟩∨∃ n:Fin 15,p.v6=sixA (n.val:Int)
 aa:p.v4=⟨false,0,0⟩→p.v6≠⟨false,0,0⟩
theorem LO.eql_mac {o:Oper} {E:Operand→Option AV} {H:Hp} {f:Nat} {ty:TypeId} {x y:Operand} (a b:List Int) (ha:a.length=6) (hb:b.length=6) (ho:o.op=.binOp .eql 23 x y ty) (hx:E x=some (.agg (bytesC a))) (hy:E y=some (.agg (bytesC b))):LO Tryz.prog o E H f [] [] (.base (.bool (decide (a=b)))) H :=
 LO.eq_bases false (a.map (Value.int .u8)) (b.map (Value.int .u8)) ho hx hy (bytesC_bases a) (bytesC_bases b) (guard_run x y false (by kernel_rfl)) (eqMac_in 9998 ha hb)
theorem PrtOk.cases4 {p:Prt} (h:PrtOk p):validA p.v4.v6 p.v4.hi p.v4.lo=true∧p.v4.v6=false∧U64 p.v4.hi∧U64 p.v4.lo:=by
 have hz:=h.a4
 rcases hz with e|⟨n,e⟩<;>rw [e]
 ·exact ⟨rfl,rfl,by unfold U64;decide,by unfold U64;decide⟩
 ·have:=n.2
  refine ⟨?_,rfl,by unfold fourA U64;simp,by unfold fourA U64;dsimp only;omega⟩
  unfold validA fourA
  simp
  omega
def emptyS:ByteArray:=⟨#[]⟩
def asA:ByteArray:=⟨#[65,83,45,65]⟩
def asB:ByteArray:=⟨#[65,83,45,66]⟩
def nameB (s:ByteArray):Bool:=decide (1≤s.size) && decide (s.size≤32) && (List.range s.size).all fun i=>match s[i]? with
 | some b=>decide ((97≤b.toNat∧b.toNat≤122)∨(65≤b.toNat∧b.toNat≤90)∨(48≤b.toNat∧b.toNat≤57)∨b.toNat=45∨b.toNat=58)
 | none=>true
theorem NameOk.of {s:ByteArray} (h:nameB s=true):NameOk s:=by
 unfold nameB at h
 simp only [Bool.and_eq_true,decide_eq_true_eq,List.all_eq_true,List.mem_range] at h
 refine ⟨h.1.1,h.1.2,fun i b hb=>?_⟩
 have hi:i < s.size:=by
  rcases Nat.lt_or_ge i s.size with h1|h1
  ·exact h1
  ·rw [getElem?_neg s i (by omega)] at hb;cases hb
 have:=h.2 i hi
 rw [hb] at this
 simp only [decide_eq_true_eq] at this
 unfold okC
 omega
theorem asA_ok:NameOk asA:=.of (by decide +kernel)
theorem asB_ok:NameOk asB:=.of (by decide +kernel)
structure MemOk (m:Mem):Prop where
 asn:1≤m.asn∧m.asn≤4294967295
 name:NameOk m.name
 set:m.set=emptyS∨m.set=asA∨m.set=asB
 max4:0≤m.max4∧m.max4≤512
 max6:0≤m.max6∧m.max6≤512
 np:1≤m.ports.length∧m.ports.length≤4
 ports:∀ p,p∈m.ports→PrtOk p
structure DbOk (d:Db):Prop where
 l4:d.lan4=lan4
 l6:d.lan6=lan6
 ns:d.servers.length≤4
 nm:d.members.length≤32
 mem:∀ m,m∈d.servers++d.members→MemOk m
theorem u64_four (n:Fin 15):validA (fourA (n.val:Int)).v6 (fourA (n.val:Int)).hi (fourA (n.val:Int)).lo=true∧U64 (fourA (n.val:Int)).hi∧U64 (fourA (n.val:Int)).lo:=by
 have:=n.2
 unfold validA fourA U64
 simp
 omega
theorem u64_six (n:Fin 15):validA (sixA (n.val:Int)).v6 (sixA (n.val:Int)).hi (sixA (n.val:Int)).lo=true∧U64 (sixA (n.val:Int)).hi∧U64 (sixA (n.val:Int)).lo:=by
 have:=n.2
 unfold validA sixA U64
 simp
 omega
theorem LO.eql_ad_b {o:Oper} {E:Operand→Option AV} {H:Hp} {f:Nat} {ty:TypeId} {x y:Operand} {r:Bool} (a b:Ad) (h:eqA a b=r) (ho:o.op=.binOp .eql 54 x y ty) (hx:E x=some (.agg (adC a))) (hy:E y=some (.agg (adC b))):LO Tryz.prog o E H f [] [] (.base (.bool r)) H:=h ▸ LO.eql_ad a b ho hx hy
theorem macsC_len {l:List (List Int)} (h:∀ m,m∈l→m.length=6):(macsC l).length=l.length * 6:=by
 induction l with
 | nil=>rfl
 | cons x l ih=>rw [show macsC (x::l)=bytesC x++macsC l from rfl,List.length_append,ih (fun m hm=>h m (by simp [hm])),bytesC_len,h x (by simp),List.length_cons];omega
theorem macsC_pure (l:List (List Int)):(macsC l).all AV.pure1=true:=flatPure (fun m=>bytesC_pure m) l
theorem macs_all {l:List (List Int)} (h:∀ m,m∈l→m.length=6):Tk (macsC l) 0 (l.length * 6) (macsC l):=by
 have:=Tk.all (macsC l)
 rwa [macsC_len h] at this
theorem prtsC_pure (l:List Prt):(prtsC l).all AV.pure1=true:=flatPure (fun _=>rfl) l
theorem prtsC_len (l:List Prt):(prtsC l).length=l.length * 10:=flatLen (c:=prtC) (fun _=>rfl) l
theorem prts_all {l:List Prt} {n:Nat} (h:l.length=n):Tk (prtsC l) 0 (n * 10) (prtsC l):=flatAll (c:=prtC) (fun _=>rfl) h
def selP (L:List Prt) (n:Nat):List Prt:=L.filter fun p=>p.id == (n:Int)
def portsOf (d:Db):List Prt:=(List.range 1000).flatMap (selP (allP d))
theorem sel_sorted:∀ (N:Nat) (L:List Prt),L.Pairwise (fun a b=>a.id < b.id)→(∀ p,p∈L→0≤p.id)→(List.range N).flatMap (selP L)=L.filter fun p=>decide (p.id < (N:Int)):=by
 intro N
 induction N with
 | zero =>
  intro L _ h0
  rw [List.range_zero,List.flatMap_nil]
  symm
  rw [List.filter_eq_nil_iff]
  intro p hp h
  have:=h0 p hp
  simp at h
  omega
 | succ N ih =>
  intro L hL h0
  rw [List.range_succ,List.flatMap_append,ih L hL h0,List.flatMap_cons,List.flatMap_nil,List.append_nil]
  clear ih
  induction L with
  | nil=>rfl
  | cons p L ih =>
   rw [List.pairwise_cons] at hL
   have ih:=ih hL.2 (fun q hq=>h0 q (by simp [hq]))
   unfold selP at ih ⊢
   by_cases h1:p.id < (N:Int)
   ·rw [List.filter_cons_of_pos (by simpa using h1),List.filter_cons_of_neg (by simp;omega),List.filter_cons_of_pos (by simp;omega),List.cons_append,ih]
   ·by_cases h2:p.id=(N:Int)
    ·have hb:L.filter (fun q=>decide (q.id < (N:Int)))=[]:=by
      rw [List.filter_eq_nil_iff]
      intro q hq h
      have:=hL.1 q hq
      simp at h
      omega
     rw [hb,List.nil_append] at ih
     rw [List.filter_cons_of_neg (by simp;omega),hb,List.nil_append,List.filter_cons_of_pos (by simp [h2]),List.filter_cons_of_pos (by simp;omega),ih]
    ·rw [List.filter_cons_of_neg (by simp;omega),List.filter_cons_of_neg (by simpa using h2),List.filter_cons_of_neg (by simp;omega),ih]
theorem ports_all (d:Db) (h:(allP d).Pairwise fun a b=>a.id < b.id) (hr:∀ p,p∈allP d→1≤p.id∧p.id≤999):portsOf d=allP d:=by
 unfold portsOf
 rw [sel_sorted 1000 _ h (fun p hp=>by have:=hr p hp;omega)]
 rw [List.filter_eq_self]
 intro p hp
 have:=hr p hp
 simp
 omega
structure Rl where
 port:Int
 asn:Int
 sw:Int
 macs:List (List Int)
 v4:List Ad
 v6:List Ad
 rate:Int
 burst:Int
def adsC (l:List Ad):List AV:=l.flatMap adC
def ruleC (r:Rl):List AV:=[.base (.int .i64 r.port),.base (.int .i64 r.asn),.base (.int .i64 r.sw),.isl (macsC r.macs) r.macs.length,.isl (adsC r.v4) r.v4.length,.isl (adsC r.v6) r.v6.length,.base (.int .i64 r.rate),.base (.int .i64 r.burst)]
def rulesC (l:List Rl):List AV:=l.flatMap ruleC
theorem rulesC_pure (l:List Rl):(rulesC l).all AV.pure1=true:=flatPure (fun _=>rfl) l
theorem rules_all {l:List Rl} {n:Nat} (h:l.length=n):Tk (rulesC l) 0 (n * 8) (rulesC l):=flatAll (c:=ruleC) (fun _=>rfl) h
theorem rules_tk {l:List Rl} {k:Nat} (h:k < l.length):Tk (rulesC l) (k * 8) 8 (ruleC l[k]):=flatTk (c:=ruleC) (fun _=>rfl) h
theorem ads_tk {l:List Ad} {k:Nat} (h:k < l.length):Tk (adsC l) (k * 3) 3 (adC l[k]):=flatTk (c:=adC) (fun _=>rfl) h
def ad1 (a:Ad):List Ad:=if zeroA a=true then [] else [a]
def ruleOf (g:Int→Int) (rate burst:Int) (p:Prt):Rl:=⟨p.id,g p.id,p.sw,p.macs,ad1 p.v4,ad1 p.v6,rate,burst⟩
def macOf (p:Prt):List Int:=p.macs.headD []
theorem ad1_len (a:Ad):(ad1 a).length≤1:=by unfold ad1;split<;>simp
def hi8 (n:Int):Int:=IntKind.u8.wrap (n.fdiv (2 ^ (min (8:Int).toNat IntKind.i64.bits)))
def putL (n:Int):List Int:=[hi8 n,IntKind.u8.wrap n]
theorem u8_bd (n:Int):0≤IntKind.u8.wrap n∧IntKind.u8.wrap n≤255:=by rw [IntKind.wrap_u8'];omega
theorem putL_isB (n:Int):IsB (putL n):=fun x hx=>by
 simp only [putL,List.mem_cons,List.not_mem_nil,or_false] at hx
 rcases hx with rfl|rfl
 ·exact u8_bd _
 ·exact u8_bd _
theorem put_nil (n:Int):AFn Tryz.prog 198 0 [.nils,.base (.int .i64 n)] mt (.osl 0 0 2 1) (up mt 0 (some (bytesC (putL n)))):=by
 refine AFn.eq Tryz.func198 rfl rfl (Nat.le_of_ble_eq_true rfl)<|Wq<|qW 0 1 rfl<|qA rfl<|Nl<|Wq<|qW 5 14 rfl<|qM rfl<|qM rfl<|Od rfl rfl (LO.shr rfl rfl rfl (by omega))<|Od rfl rfl (LO.conv rfl rfl ty3 ty5)<|qM rfl<|Od rfl rfl (LO.conv rfl rfl ty3 ty5)<|Od rfl rfl (LO.buildSlice rfl ty24 ty5 (by decide) (by decide) (.cons rfl rfl rfl rfl (Sl rfl) (.cons rfl rfl rfl rfl (Sl rfl) .nil)))<|Od rfl rfl (Lan rfl rfl (Sso rfl rfl (Tl rfl)) ty24 ty24 ty5 (by decide) (by omega) (by omega) (by decide))<|qA rfl<|Nl<|W.rename [(0,12)] 1 (T':=up mt 4 (some (.osl 0 0 (2) 1))) (H':=up mt 0 (some (bytesC (putL n)))) (by decide) ?_ ?_ ?_
 ·exact aU (lI rfl) aM
 ·exact aU (kR rfl) aM
 refine Wz ⟨.inl rfl,_,up mt 0 (some (bytesC (putL n))),Rc (Rt0 rfl) Rv,aU rfl aM,?_⟩
 exact ⟨rfl,rfl⟩
theorem put_any (l:List Int) (n:Int) (hl:l.length≤1000000):AFn Tryz.prog 198 1 [.osl 0 0 l.length 1,.base (.int .i64 n)] (up mt 0 (some (bytesC l))) (.osl 1 0 (l.length + 2) 1) (up mt 1 (some (bytesC (l++putL n)))):=by
 refine AFn.eq Tryz.func198 rfl rfl (Nat.le_of_ble_eq_true rfl)<|Wq<|qW 1 2 rfl<|qA rfl<|Nl<|Wq<|qW 6 15 rfl<|qM rfl<|qM rfl<|Od rfl rfl (LO.shr rfl rfl rfl (by omega))<|Od rfl rfl (LO.conv rfl rfl ty3 ty5)<|qM rfl<|Od rfl rfl (LO.conv rfl rfl ty3 ty5)<|Od rfl rfl (LO.buildSlice rfl ty24 ty5 (by decide) (by decide) (.cons rfl rfl rfl rfl (Sl rfl) (.cons rfl rfl rfl rfl (Sl rfl) .nil)))<|Od rfl rfl (Lap rfl rfl (Sso rfl rfl (Tl rfl)) rfl (bytes_tk rfl) ty24 ty24 ty5 (by decide) (by omega) (by omega) (by decide))<|qA rfl<|Nl ?_
 rw [show bytesC l++[AV.base (.int .u8 (IntKind.u8.wrap (n.fdiv (2 ^ (min (8:Int).toNat IntKind.i64.bits))))),AV.base (.int .u8 (IntKind.u8.wrap n))]=bytesC (l++putL n) from by rw [bytesC_app];rfl]
 refine W.rename [(0,0),(1,13)] 2 (T':=up mt 4 (some (.osl 1 0 (l.length + 2) 1))) (H':=up mt 1 (some (bytesC (l++putL n)))) (by decide) ?_ ?_ ?_
 ·exact aU (lI rfl) aM
 ·exact aU (kP rfl (bytesC_pure _)) aM
 refine Wz ⟨.inl rfl,_,up mt 1 (some (bytesC (l++putL n))),Rc (Rt0 rfl) Rv,aU rfl aM,?_⟩
 exact ⟨rfl,rfl⟩
theorem i64_or {x y:Int} (hx:0≤x∧x≤255) (hy:0≤y∧y≤255):bitV .or .i64 (x * 256) y=x * 256 + y:=by
 obtain ⟨a,rfl⟩:=Int.eq_ofNat_of_zero_le hx.1
 obtain ⟨b,rfl⟩:=Int.eq_ofNat_of_zero_le hy.1
 have e1:(BitVec.ofInt IntKind.i64.bits ((a:Int) * 256) ||| BitVec.ofInt IntKind.i64.bits (b:Int)).toNat=a * 256 + b:=by
  rw [BitVec.toNat_or]
  have a1:(BitVec.ofInt IntKind.i64.bits ((a:Int) * 256)).toNat=2 ^ 8 * a:=by
   simp only [BitVec.toNat_ofInt,IntKind.bits];omega
  have a2:(BitVec.ofInt IntKind.i64.bits (b:Int)).toNat=b:=by
   simp only [BitVec.toNat_ofInt,IntKind.bits];omega
  rw [a1,a2,← Nat.two_pow_add_eq_or_of_lt (i:=8) (by omega) a]
  omega
 show IntKind.i64.wrap ((BitVec.ofInt IntKind.i64.bits ((a:Int) * 256) ||| BitVec.ofInt IntKind.i64.bits (b:Int)).toNat:Nat)=_
 rw [e1,IntWalk.i64_in _ (by omega)]
 omega
theorem get_any (l:List Int) (hB:IsB l) (h2:2≤l.length):AFn Tryz.prog 176 0 [.isl (bytesC l) l.length] mt (.base (.int .i64 (gB l 0 * 256 + gB l 1))) mt:=by
 refine AFn.eq Tryz.func176 rfl rfl (Nat.le_of_ble_eq_true rfl) ?_
 have b0:=hB.at 0
 have b1:=hB.at 1
 refine Wq<|qW 0 1 rfl<|qA rfl<|Nl ?_
 have hsh:IntKind.i64.wrap (gB l 0 * 2 ^ (min (8:Int).toNat IntKind.i64.bits))=gB l 0 * 256:=by
  rw [show (2:Int) ^ (min (8:Int).toNat IntKind.i64.bits)=256 from by decide];exact IntWalk.i64_in _ (by omega)
 have hor:=i64_or b0 b1
 refine Wq<|Wd 5 16 (by decide) rfl mixed rfl<|qM rfl<|qJ rfl rfl ty24 ty5 (by simp;omega)<|Od rfl rfl (Li rfl rfl (by_at (k:=0) (by omega)) ty5 rfl)<|Od rfl rfl (Ci rfl rfl ty5 ty3 (iW _ (by omega)))<|Od rfl rfl (LO.shl rfl rfl rfl (by omega)) ?_
 rw [hsh]
 refine qM rfl<|qJ rfl rfl ty24 ty5 ‹_›<|Od rfl rfl (Li rfl rfl (by_at (k:=1) (by omega)) ty5 rfl)<|Od rfl rfl (Ci rfl rfl ty5 ty3 (iW _ (by omega)))<|Od rfl rfl (LO.or rfl rfl rfl) ?_
 rw [hor]
 refine qA rfl<|Nl ⟨by kernel_rfl,(Wz ⟨.inl rfl,_,mt,Rc (Rt0 rfl) (Rv),aM,?_⟩)⟩
 exact ⟨rfl,rfl⟩
def macF (n:Int):List Int:=[2,0,IntKind.u8.wrap (n.fdiv (2 ^ (min (24:Int).toNat IntKind.i64.bits))),IntKind.u8.wrap (n.fdiv (2 ^ (min (16:Int).toNat IntKind.i64.bits))),IntKind.u8.wrap (n.fdiv (2 ^ (min (8:Int).toNat IntKind.i64.bits))),IntKind.u8.wrap n]
theorem macF_isB (n:Int):IsB (macF n):=fun x hx=>by
 simp only [macF,List.mem_cons,List.not_mem_nil,or_false] at hx
 rcases hx with rfl|rfl|rfl|rfl|rfl|rfl
 ·decide
 ·decide
 ·exact u8_bd _
 ·exact u8_bd _
 ·exact u8_bd _
 ·exact u8_bd _
theorem mac_any (n:Int):AFn Tryz.prog 130 0 [.base (.int .i64 n)] mt (.agg (bytesC (macF n))) mt:=by
 refine AFn.eq Tryz.func130 rfl rfl (Nat.le_of_ble_eq_true rfl)<|Wq<|qW 0 1 rfl<|qB rfl ty23<|Nl<|Wq<|qW 5 18 rfl<|qM rfl<|Od rfl rfl (LO.shr rfl rfl rfl (by omega))<|Od rfl rfl (LO.conv rfl rfl ty3 ty5)<|qM rfl<|Od rfl rfl (LO.shr rfl rfl rfl (by omega))<|Od rfl rfl (LO.conv rfl rfl ty3 ty5)<|qM rfl<|Od rfl rfl (LO.shr rfl rfl rfl (by omega))<|Od rfl rfl (LO.conv rfl rfl ty3 ty5)<|qM rfl<|Od rfl rfl (LO.conv rfl rfl ty3 ty5)<|Od rfl rfl (LO.build_ar rfl ty23 ty5 (.cons rfl rfl rfl rfl (Sl rfl) (.cons rfl rfl rfl rfl (Sl rfl) (.cons rfl rfl rfl rfl (Sl rfl) (.cons rfl rfl rfl rfl (Sl rfl) (.cons rfl rfl rfl rfl (Sl rfl) (.cons rfl rfl rfl rfl (Sl rfl) .nil)))))))<|qS rfl ty23 (Sl rfl) rfl<|Nl<|Wz ⟨.inl rfl,_,mt,(Rc (Ra0 rfl rfl ty23 rfl (Tl rfl)) Rv),aM,?_⟩
 exact ⟨rfl,rfl⟩
def lsC (L:List (List Int)):List AV:=L.map fun l=>.isl (bytesC l) l.length
theorem lsC_pure (L:List (List Int)):(lsC L).all AV.pure1=true:=by
 induction L with
 | nil=>rfl
 | cons x l ih=>rw [show lsC (x::l)=[.isl (bytesC x) x.length]++lsC l from rfl,List.all_append,ih];rfl
theorem ls_at {L:List (List Int)} {k:Nat} (h:k < L.length):(lsC L)[k * 1]?=some (.isl (bytesC L[k]) L[k].length):=by simp [lsC,h]
theorem ls_tk1 {L:List (List Int)}:Tk (lsC L) (1 * 1) ((L.length - 1) * 1) (lsC (L.drop 1)):=by
 refine ⟨by simp [lsC],fun j c hj=>?_⟩
 simp only [lsC,List.map_drop,List.getElem?_drop] at hj
 exact hj
theorem flat_take {L:List (List Int)} {k:Nat} (h:k < L.length):(L.take (k + 1)).flatten=(L.take k).flatten++L[k]:=by
 rw [List.take_add_one,List.flatten_append]
 simp [h]
theorem flat_le {L:List (List Int)} (k:Nat):(L.take k).flatten.length≤L.flatten.length:=by
 have:L.flatten=(L.take k).flatten++(L.drop k).flatten:=by rw [← List.flatten_append,List.take_append_drop]
 rw [this,List.length_append];omega
set_option maxHeartbeats 1000000 in
theorem join_any (L:List (List Int)) (h2:2≤L.length) (h3:L.length≤1000) (hf0:1≤L.flatten.length) (hf:L.flatten.length≤1000000) (hh:1≤(L[0]'(by omega)).length):AFn Tryz.prog 197 0 [.isl (lsC L) L.length,.nils] mt (.osl 0 0 L.flatten.length 1) (up mt 0 (some (bytesC L.flatten))):=by
 refine AFn.eq Tryz.func197 rfl rfl (Nat.le_of_ble_eq_true rfl) ?_
 have g0:((L.length:Int) == 0)=false:=beq_eq_false_iff_ne.2 (by omega)
 have g1:((L.length:Int) == 1)=false:=beq_eq_false_iff_ne.2 (by omega)
 refine Wq<|qW 0 1 rfl<|qA rfl<|Nl<|Wq<|Wq<|qW 5 8 rfl<|qM rfl<|qH rfl ty182<|qE rfl<|Nl<|Wo rfl ‹_›<|Wu<|Wq<|Wq<|qW 18 21 rfl<|qM rfl<|qH rfl ty182<|qE rfl<|Nl<|Wo rfl ‹_›<|Wu<|Wq<|qW 34 35 rfl<|qA rfl<|Nl<|Wq<|Wq<|qW 39 42 rfl<|qM rfl<|qH rfl ty24<|qGt rfl<|Nl<|Wo rfl rfl<|Wu<|Wq<|Wq<|qW 76 79 rfl<|qM rfl<|qH rfl ty182<|qM rfl<|Nl<|Wb<|W.loop_keep (α:=Nat) (fun x=>L.length - x) 0 (fun x=>[(5,.base (.int .i64 ((L.take x).flatten.length:Int))),(44,.base (.int .i64 (x:Int)))]) (fun x=>mt) (fun x=>x≤L.length) 0 [] (.cons (t:=0) rfl (by exact .inl rfl) (.cons (t:=1) rfl (by exact .inl rfl) (.cons (t:=42) rfl (by exact .inl rfl) (.cons (t:=43) rfl (by exact .inl rfl) .nil)))) (show 0≤L.length from Nat.zero_le _) (by decide) ?_ ?_ ?_
 ·exact lC (lR rfl) (lC (lR rfl) lN)
 ·exact aM
 rintro i hIA ihA
 try (dsimp only at hIA)
 try dsimp only [baseT,List.cons_append,List.nil_append]
 have hfl:=flat_le (L:=L) i
 by_cases hc:i < L.length
 ·have g2:decide ((i:Int) < (L.length:Int))=true:=decide_eq_true (by omega)
  have hfl2:=flat_le (L:=L) (i + 1)
  have hn:=flat_take hc
  have hnl:(L.take (i + 1)).flatten.length=(L.take i).flatten.length + L[i].length:=by rw [hn,List.length_append]
  have g3:decide ((L[i].length:Int) > 9223372036854775807 - ((L.take i).flatten.length:Int))=false:=decide_eq_false (by omega)
  refine Wq<|qW 83 84 rfl<|qK rfl<|Nl<|Wq<|Wt rfl ‹_›<|Wu<|Wq<|Wb<|Wq<|qW 88 91 rfl<|qJ rfl rfl ty182 ty24 (by omega)<|Od rfl rfl (Li rfl rfl (ls_at hc) ty24 rfl)<|qA rfl<|Nl<|Wq<|Wq<|qW 95 100 rfl<|qM rfl<|qH rfl ty24<|qM rfl<|Od rfl rfl (LO.sub_in rfl rfl rfl (iW _ (by omega)))<|qGt rfl<|Nl<|Wo rfl ‹_›<|Wu<|qW 110 115 rfl<|qM rfl<|qM rfl<|qH rfl ty24<|qZ rfl (iW _ (by omega))<|qA rfl<|Nl<|qW 119 121 rfl<|qZ rfl (iW _ (by omega))<|qM rfl<|Nl ?_
  rw [show (((L.take i).flatten.length:Int) + (L[i].length:Int))=((L.take (i + 1)).flatten.length:Int) from by rw [hnl];omega]
  refine WL.renameL [] 0 (by decide) ?_ ?_ (ihA (i + 1) (show L.length - (i + 1) < L.length - i from by omega) (show (i + 1)≤L.length from by omega))
  ·exact lC (lR rfl) (lC (lR rfl) (lC (lR rfl) (lC (lR rfl) (lC (lR rfl) (lC (lR rfl) lN)))))
  ·exact aM
 ·have g2:decide ((i:Int) < (L.length:Int))=false:=decide_eq_false (by omega)
  refine Wq<|qW 83 84 rfl<|qK rfl<|Nl<|Wq<|Wo rfl ‹_›<|Wx ?_
  obtain rfl:i=L.length:=by omega
  rw [List.take_length]
  refine Wq<|qW 125 131 rfl<|qM rfl<|Od rfl rfl (LO.makeNoZero (n:=L.flatten.length) (ps:=#[3]) rfl rfl rfl Tryz.func204 (by kernel_rfl) (by kernel_rfl) (by kernel_rfl) (by kernel_rfl) ty24 (by omega))<|qM rfl<|qM rfl<|Od rfl rfl (LO.slice3 rfl rfl rfl rfl (by omega) ty24 ty5)<|qA rfl<|Nl ?_
  have hcp:Cp ([]:List AV) 0 (bytesC L[0]) (bytesC L[0]):=Cp.app (cs:=[]) rfl
  have hL1:0 < L.length:=by omega
  have hL0:L[0].length≤L.flatten.length:=by
   have:=flat_le (L:=L) 1
   rw [show (L.take 1).flatten=L[0] from by rw [show (1:Nat)=0 + 1 from rfl,flat_take (k:=0) (by omega)];simp] at this
   exact this
  refine Wq<|qW 135 141 rfl<|qM rfl<|qM rfl<|qJ rfl rfl ty182 ty24 (by omega)<|Od rfl rfl (Li rfl rfl (ls_at (k:=0) (by omega)) ty24 rfl)<|Od rfl rfl (LO.copy rfl rfl (Ssi rfl rfl (by simp [bytesC])) rfl hcp ty24 ty24 ty5 (by decide) (by omega) (by omega))<|qA rfl<|Nl<|Wq<|Wq<|qW 145 149 rfl<|qM rfl<|Od rfl rfl (Lsi rfl rfl rfl (Ba rfl rfl) Bnd.no ‹_› (by omega) ty182 ty24 (ls_tk1 (L:=L)))<|qH rfl ty182<|qM rfl<|Nl ?_
  have hdl:(L.drop 1).length=L.length - 1:=by simp
  have hb1:bytesC L[0]=bytesC (L.take (0 + 1)).flatten:=by rw [flat_take (k:=0) (by omega)];simp
  have hl1:(L[0].length:Int)=((L.take (0 + 1)).flatten.length:Int):=by rw [flat_take (k:=0) (by omega)];simp
  rw [hb1,hl1]
  obtain ⟨n,hn⟩:∃ n,L.flatten.length=n:=⟨_,rfl⟩
  rw [hn] at hf0 hf hL0 ⊢
  refine Wb<|W.loop_keep (α:=Nat) (fun x=>L.length - x) 1 (fun x=>[(8,.osl 0 0 n 1),(9,.base (.int .i64 ((L.take (x + 1)).flatten.length:Int))),(72,.base (.int .i64 (x:Int)))]) (fun x=>up mt 0 (some (bytesC (L.take (x + 1)).flatten))) (fun x=>x + 1≤L.length) 0 [(0,126)] (.cons (t:=1) rfl (by exact .inl rfl) (.cons (t:=70) rfl (by exact .inl rfl) (.cons (t:=71) rfl (by exact .inl rfl) .nil))) (show 0 + 1≤L.length from by omega) (by decide) ?_ ?_ ?_
  ·exact lC (lI rfl) (lC (lR rfl) (lC (lR rfl) lN))
  ·exact aU (kP rfl (bytesC_pure _)) aM
  rintro i hIB ihB
  try (dsimp only at hIB)
  try dsimp only [baseT,List.cons_append,List.nil_append]
  have hfl:=flat_le (L:=L) (i + 1)
  rw [hn] at hfl
  obtain ⟨acc,hacc⟩:∃ acc,(L.take (i + 1)).flatten=acc:=⟨_,rfl⟩
  rw [hacc] at hfl ⊢
  by_cases hc:i < L.length - 1
  ·have g5:decide ((i:Int) < ((L.length - 1:Nat):Int))=true:=decide_eq_true (by omega)
   have hft:=flat_take (L:=L) (k:=i + 1) (by omega)
   have hfl2:=flat_le (L:=L) (i + 1 + 1)
   obtain ⟨p,hp⟩:∃ p,L[i + 1]=p:=⟨_,rfl⟩
   rw [hacc,hp] at hft
   rw [hn,hft,List.length_append] at hfl2
   have hat:(lsC (L.drop 1))[i * 1]?=some (.isl (bytesC p) p.length):=by
    rw [ls_at (by rw [hdl];exact hc)]
    have e:(L.drop 1)[i]'(by rw [hdl];exact hc)=p:=by rw [← hp,List.getElem_drop];congr 1;omega
    rw [e]
   refine Wq<|qW 153 154 rfl<|qK rfl<|Nl<|Wq<|Wt rfl ‹_›<|Wu<|Wq<|Wb<|Wq<|qW 158 161 rfl<|qJ rfl rfl ty182 ty24 (by omega)<|Od rfl rfl (Li rfl rfl hat ty24 rfl)<|qA rfl<|Nl<|Wq<|qW 165 173 rfl<|qM rfl<|qM rfl<|qM rfl<|Od rfl rfl (LO.slice rfl rfl (Ba rfl rfl) Bnd.no (by omega) (by omega) ty24 ty5)<|qM rfl<|Od rfl rfl (LO.copy_nil rfl rfl rfl rfl ty24 ty5)<|qZ rfl (iW _ (by omega))<|qA rfl<|Nl ?_
   rw [Int.add_zero]
   rcases Nat.eq_zero_or_pos p.length with hz|hz
   ·obtain rfl:p=[]:=List.eq_nil_of_length_eq_zero hz
    rw [List.append_nil] at hft
    refine qW 177 185 rfl<|qM rfl<|qM rfl<|qM rfl<|Od rfl rfl (LO.slice rfl rfl (Ba rfl rfl) Bnd.no (by omega) (by omega) ty24 ty5)<|qM rfl<|Od rfl rfl (LO.copy_nil rfl rfl rfl rfl ty24 ty5)<|qZ rfl (iW _ (by omega))<|qA rfl<|Nl ?_
    rw [Int.add_zero]
    rw [← hft]
    refine qW 189 191 rfl<|qZ rfl (iW _ (by omega))<|qM rfl<|Nl<|WL.renameL [(0,0)] 1 (by decide) ?_ ?_ (ihB (i + 1) (show L.length - (i + 1) < L.length - i from by omega) (show (i + 1) + 1≤L.length from by omega))
    ·exact lC (lI rfl) (lC (lR rfl) (lC (lR rfl) (lC (lR rfl) (lC (lR rfl) (lC (lR rfl) lN)))))
    ·exact aU (kP rfl (bytesC_pure _)) aM
   ·have hcp:Cp (bytesC acc) (0 + acc.length * 1) (bytesC p) (bytesC acc++bytesC p):=Cp.app (by rw [bytesC_len];omega)
    refine qW 177 185 rfl<|qM rfl<|qM rfl<|qM rfl<|Od rfl rfl (LO.slice rfl rfl (Ba rfl rfl) Bnd.no (by omega) (by omega) ty24 ty5)<|qM rfl<|Od rfl rfl (LO.copy rfl rfl (Ssi rfl rfl (by simp [bytesC])) rfl hcp ty24 ty24 ty5 (by decide) (by omega) (by omega))<|qZ rfl (iW _ (by omega))<|qA rfl<|Nl ?_
    rw [← bytesC_app,← hft,show (acc.length:Int) + (p.length:Int)=((L.take (i + 1 + 1)).flatten.length:Int) from by rw [hft,List.length_append];omega]
    refine qW 189 191 rfl<|qZ rfl (iW _ (by omega))<|qM rfl<|Nl<|WL.renameL [(0,0)] 1 (by decide) ?_ ?_ (ihB (i + 1) (show L.length - (i + 1) < L.length - i from by omega) (show (i + 1) + 1≤L.length from by omega))
    ·exact lC (lI rfl) (lC (lR rfl) (lC (lR rfl) (lC (lR rfl) (lC (lR rfl) (lC (lR rfl) lN)))))
    ·exact aU (kP rfl (bytesC_pure _)) aM
  ·have g5:decide ((i:Int) < ((L.length - 1:Nat):Int))=false:=decide_eq_false (by omega)
   have he:acc=L.flatten:=by rw [← hacc,show i + 1=L.length from by omega,List.take_length]
   refine Wq<|qW 153 154 rfl<|qK rfl<|Nl<|Wq<|Wo rfl ‹_›<|Wx ?_
   subst he
   refine Wq<|qW 195 197 rfl<|qM rfl<|qA rfl<|Nl<|W.rename [(0,0)] 1 (T':=up mt 4 (some (.osl 0 0 (n) 1))) (H':=up mt 0 (some (bytesC L.flatten))) (by decide) ?_ ?_ ?_
   ·exact aU (lI rfl) aM
   ·exact aU (kP rfl (bytesC_pure _)) aM
   refine Wz ⟨.inl rfl,_,up mt 0 (some (bytesC L.flatten)),Rc (Rt0 rfl) Rv,aU rfl aM,?_⟩
   exact ⟨rfl,rfl⟩
theorem put_isl (l:List Int) (n:Int) (hl:l.length≤1000000):AFn Tryz.prog 198 1 [.osl 0 0 l.length 1,.base (.int .i64 n)] (up mt 0 (some (bytesC l))) (.isl (bytesC (l++putL n)) (l.length + 2)) mt:=by
 refine AFn.eq Tryz.func198 rfl rfl (Nat.le_of_ble_eq_true rfl)<|Wq<|qW 1 2 rfl<|qA rfl<|Nl<|Wq<|qW 6 15 rfl<|qM rfl<|qM rfl<|Od rfl rfl (LO.shr rfl rfl rfl (by omega))<|Od rfl rfl (LO.conv rfl rfl ty3 ty5)<|qM rfl<|Od rfl rfl (LO.conv rfl rfl ty3 ty5)<|Od rfl rfl (LO.buildSlice rfl ty24 ty5 (by decide) (by decide) (.cons rfl rfl rfl rfl (Sl rfl) (.cons rfl rfl rfl rfl (Sl rfl) .nil)))<|Od rfl rfl (Lap rfl rfl (Sso rfl rfl (Tl rfl)) rfl (bytes_tk rfl) ty24 ty24 ty5 (by decide) (by omega) (by omega) (by decide))<|qA rfl<|Nl ?_
 rw [show bytesC l++[AV.base (.int .u8 (IntKind.u8.wrap (n.fdiv (2 ^ (min (8:Int).toNat IntKind.i64.bits))))),AV.base (.int .u8 (IntKind.u8.wrap n))]=bytesC (l++putL n) from by rw [bytesC_app];rfl]
 refine Wy (t:=4) rfl rfl (bytes_tk (by rw [List.length_append];rfl)) (bytesC_pure _)<|Wz ⟨.inl rfl,_,mt,Rc (Rt0 rfl) (Rv),aM,?_⟩
 exact ⟨rfl,rfl⟩
def len4 (n:Nat):List Int:=[0,(n:Int) / 65536 % 256,(n:Int) / 256 % 256,(n:Int) % 256]
theorem sh_i64 (n:Nat) (k:Nat) (hk:k < 64):(n:Int).fdiv (2 ^ (min (k:Int).toNat IntKind.i64.bits))=(n:Int) / 2 ^ k:=by
 rw [Int.toNat_natCast,Nat.min_eq_left (show k≤IntKind.i64.bits from by show _≤64;omega),Int.fdiv_eq_ediv_of_nonneg _ (Int.le_of_lt (Int.pow_pos (by decide)))]
theorem put_len4 {n:Nat} (h:n < 16777216):putL ((n:Int).fdiv (2 ^ (min (16:Int).toNat IntKind.i64.bits)))++putL n=len4 n:=by
 have e16:=sh_i64 n 16 (by decide)
 have e8:=sh_i64 n 8 (by decide)
 have e8':=sh_i64 (n / 65536) 8 (by decide)
 simp only [putL,hi8,len4]
 rw [show ((16:Nat):Int)=16 from rfl] at e16
 rw [show ((8:Nat):Int)=8 from rfl] at e8 e8'
 rw [e16,show (n:Int) / 2 ^ 16=((n / 65536:Nat):Int) from by omega,e8',e8,IntKind.wrap_u8',IntKind.wrap_u8',IntKind.wrap_u8',IntKind.wrap_u8']
 simp only [List.cons_append,List.nil_append,List.cons.injEq,and_true]
 omega
def chkParts (s d:Ad) (p:Int) (l:List Int):List (List Int):=[addrL s,addrL d,len4 l.length,[0,0,0,IntKind.u8.wrap p],l]
def chkB (s d:Ad) (p:Int) (l:List Int):List Int:=(chkParts s d p l).flatten
def chkF (s d:Ad) (p:Int) (l:List Int):Int:=sumL (chkB s d p l)
theorem chkB_eq (s d:Ad) (p:Int) (l:List Int):chkB s d p l=addrL s++addrL d++(len4 l.length++[0,0,0,IntKind.u8.wrap p])++l:=by simp [chkB,chkParts]
theorem len4_isB (n:Nat):IsB (len4 n):=fun x hx=>by
 simp only [len4,List.mem_cons,List.not_mem_nil,or_false] at hx
 rcases hx with rfl|rfl|rfl|rfl<;>omega
theorem pr_isB (p:Int):IsB [0,0,0,IntKind.u8.wrap p]:=fun x hx=>by
 have:=u8_bd p
 simp only [List.mem_cons,List.not_mem_nil,or_false] at hx
 rcases hx with rfl|rfl|rfl|rfl<;>omega
theorem chkB_isB (s d:Ad) (p:Int) {l:List Int} (hB:IsB l):IsB (chkB s d p l):=by
 rw [chkB_eq]
 exact (((addrL_isB s).append (addrL_isB d)).append ((len4_isB _).append (pr_isB p))).append hB
theorem addrL_pos (a:Ad):1≤(addrL a).length∧(addrL a).length≤16:=by rw [addrL_len];split<;>omega
theorem chkB_len (s d:Ad) (p:Int) (l:List Int):(chkB s d p l).length=(addrL s).length + (addrL d).length + 8 + l.length:=by
 rw [chkB_eq];simp [len4];omega
set_option maxHeartbeats 1000000 in
theorem chk_any (s d:Ad) (p:Int) (l:List Int) (hs:validA s.v6 s.hi s.lo=true) (hd:validA d.v6 d.hi d.lo=true) (s1:U64 s.hi) (s2:U64 s.lo) (d1:U64 d.hi) (d2:U64 d.lo) (hB:IsB l) (hl:l.length≤100000) :
 AFn Tryz.prog 179 0 [.agg (adC s),.agg (adC d),.base (.int .i64 p),.isl (bytesC l) l.length] mt (.base (.int .u16 (chkF s d p l))) mt:=by
 refine AFn.eq Tryz.func179 rfl rfl (Nat.le_of_ble_eq_true rfl) ?_
 have hbs:=(bytes_any s hs s1 s2).frozen (bytes_tk rfl) (bytesC_pure _)
 have hbd:=(bytes_any d hd d1 d2).frozen (bytes_tk rfl) (bytesC_pure _)
 have p1:=addrL_pos s
 have p2:=addrL_pos d
 have hcl:=chkB_len s d p l
 have hsm:=sum_any (chkB s d p l) (chkB_isB s d p hB) (by omega)
 have hj:=join_any (chkParts s d p l) (Nat.le_of_ble_eq_true rfl) (Nat.le_of_ble_eq_true rfl) (show 1≤(chkB s d p l).length by omega) (show (chkB s d p l).length≤1000000 by omega) p1.1
 have hpn:=put_len4 (n:=l.length) (by omega)
 have hpi:=put_isl (putL ((l.length:Int).fdiv (2 ^ (min (16:Int).toNat IntKind.i64.bits)))) (l.length:Int) (Nat.le_of_ble_eq_true rfl)
 rw [hpn] at hpi
 refine Wq<|qW 0 3 rfl<|qC rfl<|qC rfl<|qA rfl<|Nl<|Wq<|qW 7 10 rfl<|qM rfl<|qH rfl ty24<|qA rfl<|Nl<|Wq<|Wd 14 31 (by decide) rfl mixed rfl<|qG rfl ty54 rfl (Tl rfl)<|qY rfl (hbs) fok180 rfl<|qG rfl ty54 rfl (Tl rfl)<|qY rfl (hbd) fok180 rfl<|qM rfl<|Od rfl rfl (LO.shr rfl rfl rfl (by omega))<|Od rfl rfl (LO.callO (fr:=[]) rfl rfl (put_nil _) fok198 (.cons rfl (.pure rfl) (.cons rfl (.pure rfl) .nil)) rfl (by decide))<|qM rfl<|Od rfl rfl (LO.callD (fr:=[]) rfl rfl (hpi) fok198 (.osl rfl rfl (.cons rfl (.pure rfl) .nil)) rfl rfl rfl (Cn _ _) (by decide) (by decide) (by decide))<|qM rfl<|Od rfl rfl (LO.conv rfl rfl ty3 ty5)<|Od rfl rfl (LO.buildSlice rfl ty24 ty5 (by decide) (by decide) (.cons rfl rfl rfl rfl (Sl rfl) (.cons rfl rfl rfl rfl (Sl rfl) (.cons rfl rfl rfl rfl (Sl rfl) (.cons rfl rfl rfl rfl (Sl rfl) .nil)))))<|qM rfl<|Od rfl rfl (LO.buildSlice rfl ty182 ty24 (by decide) (by decide) (.cons rfl rfl rfl rfl (Sl rfl) (.cons rfl rfl rfl rfl (Sl rfl) (.cons rfl rfl rfl rfl (Sl rfl) (.cons rfl rfl rfl rfl (Sl rfl) (.cons rfl rfl rfl rfl (Sl rfl) .nil))))))<|Od rfl rfl (LO.callO (fr:=[27,25]) rfl rfl (hj) fok197 (.cons rfl (.nest (by decide) rfl (Tl rfl) (.cons (.same rfl) (.cons (.same rfl) (.cons (.same rfl) (.cons (.osl (by decide) rfl (Tl rfl) rfl) (.cons (.same rfl) .nil)))))) (.cons rfl (.pure rfl) .nil)) (bytesC_pure _) (by decide))<|Od rfl rfl (C0 (fr:=[28]) rfl rfl (hsm) fok177 (.cons rfl (.one (.osl (by decide) rfl (bytes_tk rfl) (bytesC_pure _))) .nil) rfl)<|qA rfl<|Nl ⟨by kernel_rfl,(Wz ⟨.inl rfl,_,mt,Rc (Rt0 rfl) (Rv),aM,?_⟩)⟩
 exact ⟨rfl,rfl⟩
theorem ref_len4 {n:Nat} (h:n < 16777216):[IntKind.u8.wrap ((n:Int).fdiv (2 ^ (min (24:Int).toNat IntKind.i64.bits))),IntKind.u8.wrap ((n:Int).fdiv (2 ^ (min (16:Int).toNat IntKind.i64.bits))),IntKind.u8.wrap ((n:Int).fdiv (2 ^ (min (8:Int).toNat IntKind.i64.bits))),IntKind.u8.wrap (n:Int)]=len4 n:=by
 have e24:=sh_i64 n 24 (by decide)
 have e16:=sh_i64 n 16 (by decide)
 have e8:=sh_i64 n 8 (by decide)
 rw [show ((24:Nat):Int)=24 from rfl] at e24
 rw [show ((16:Nat):Int)=16 from rfl] at e16
 rw [show ((8:Nat):Int)=8 from rfl] at e8
 simp only [len4]
 rw [e24,e16,e8,IntKind.wrap_u8',IntKind.wrap_u8',IntKind.wrap_u8',IntKind.wrap_u8']
 simp only [List.cons.injEq,and_true]
 omega
set_option maxHeartbeats 1000000 in
theorem chkX_any (s d:Ad) (p:Int) (l:List Int) (hs:validA s.v6 s.hi s.lo=true) (hd:validA d.v6 d.hi d.lo=true) (s1:U64 s.hi) (s2:U64 s.lo) (d1:U64 d.hi) (d2:U64 d.lo) (hB:IsB l) (hl:l.length≤100000) :
 AFn Tryz.prog 78 0 [.agg (adC s),.agg (adC d),.base (.int .i64 p),.isl (bytesC l) l.length] mt (.base (.int .u16 (chkF s d p l))) mt:=by
 refine AFn.eq Tryz.func78 rfl rfl (Nat.le_of_ble_eq_true rfl) ?_
 have hbs:=bytesX_any s hs s1 s2
 have hbd:=bytesX_any d hd d1 d2
 have p1:=addrL_pos s
 have p2:=addrL_pos d
 have hcl:=chkB_len s d p l
 have hsm:=sumX_any (chkB s d p l) (chkB_isB s d p hB) (by omega)
 have h8:=ref_len4 (n:=l.length) (by omega)
 refine Wq<|qW 0 3 rfl<|qC rfl<|qC rfl<|qA rfl<|Nl<|Wq<|qW 7 10 rfl<|qM rfl<|qH rfl ty24<|qA rfl<|Nl<|Wq<|Wd 14 20 (by decide) rfl mixed rfl<|qG rfl ty54 rfl (Tl rfl)<|Od rfl rfl (LO.callO (fr:=[]) rfl rfl (hbs) fok85 (.cons rfl (.pure rfl) .nil) (bytesC_pure _) (by decide))<|qG rfl ty54 rfl (Tl rfl)<|Od rfl rfl (LO.callO (fr:=[]) rfl rfl (hbd) fok85 (.cons rfl (.pure rfl) .nil) (bytesC_pure _) (by decide))<|Od rfl rfl (Lap rfl rfl (Sso rfl rfl (bytes_tk rfl)) rfl (bytes_tk rfl) ty24 ty24 ty5 (by decide) (by omega) (by omega) (by decide))<|qA rfl<|Nl ⟨by kernel_rfl,?_⟩
 rw [← bytesC_app,← List.length_append]
 have hls:(addrL s++addrL d).length=(addrL s).length + (addrL d).length:=List.length_append
 obtain ⟨X,hX⟩:∃ X,addrL s++addrL d=X:=⟨_,rfl⟩
 rw [hX] at hls ⊢
 refine Wq<|qW 24 41 rfl<|qM rfl<|qM rfl<|Od rfl rfl (LO.shr rfl rfl rfl (by omega))<|Od rfl rfl (LO.conv rfl rfl ty3 ty5)<|qM rfl<|Od rfl rfl (LO.shr rfl rfl rfl (by omega))<|Od rfl rfl (LO.conv rfl rfl ty3 ty5)<|qM rfl<|Od rfl rfl (LO.shr rfl rfl rfl (by omega))<|Od rfl rfl (LO.conv rfl rfl ty3 ty5)<|qM rfl<|Od rfl rfl (LO.conv rfl rfl ty3 ty5)<|qM rfl<|Od rfl rfl (LO.conv rfl rfl ty3 ty5)<|Od rfl rfl (LO.buildSlice rfl ty24 ty5 (by decide) (by decide) (.cons rfl rfl rfl rfl (Sl rfl) (.cons rfl rfl rfl rfl (Sl rfl) (.cons rfl rfl rfl rfl (Sl rfl) (.cons rfl rfl rfl rfl (Sl rfl) (.cons rfl rfl rfl rfl (Sl rfl) (.cons rfl rfl rfl rfl (Sl rfl) (.cons rfl rfl rfl rfl (Sl rfl) (.cons rfl rfl rfl rfl (Sl rfl) .nil)))))))))<|Od rfl rfl (Lap rfl rfl (Sso rfl rfl (Tl rfl)) rfl (bytes_tk rfl) ty24 ty24 ty5 (by decide) (by omega) (by omega) (by decide))<|qA rfl<|Nl ?_
 have e3:bytesC X++[AV.base (.int .u8 (IntKind.u8.wrap ((l.length:Int).fdiv (2 ^ (min (24:Int).toNat IntKind.i64.bits))))),AV.base (.int .u8 (IntKind.u8.wrap ((l.length:Int).fdiv (2 ^ (min (16:Int).toNat IntKind.i64.bits))))),AV.base (.int .u8 (IntKind.u8.wrap ((l.length:Int).fdiv (2 ^ (min (8:Int).toNat IntKind.i64.bits))))),AV.base (.int .u8 (IntKind.u8.wrap (l.length:Int))),AV.base (.int .u8 0),AV.base (.int .u8 0),AV.base (.int .u8 0),AV.base (.int .u8 (IntKind.u8.wrap p))]=bytesC (X++(len4 l.length++[0,0,0,IntKind.u8.wrap p])):=by
  rw [← h8,bytesC_app];rfl
 rw [e3]
 have hl3:(X++(len4 l.length++[0,0,0,IntKind.u8.wrap p])).length=X.length + 8:=by rw [List.length_append];rfl
 rw [← hl3]
 obtain ⟨Y,hY⟩:∃ Y,X++(len4 l.length++[0,0,0,IntKind.u8.wrap p])=Y:=⟨_,rfl⟩
 rw [hY] at hl3 ⊢
 have hfin:Y++l=chkB s d p l:=by rw [chkB_eq,← hY,← hX]
 refine Wq<|qW 45 50 rfl<|qM rfl<|qM rfl<|Od rfl rfl (Lap rfl rfl (Ssi rfl rfl (by simp [bytesC])) rfl (bytes_tk rfl) ty24 ty24 ty5 (by decide) (by omega) (by omega) (by decide)) ?_
 rw [← bytesC_app,← List.length_append,hfin]
 refine Od rfl rfl (C0 (fr:=[47]) rfl rfl (hsm) fok76 (.cons rfl (.one (.osl (by decide) rfl (bytes_tk rfl) (bytesC_pure _))) .nil) rfl)<|qA rfl<|Nl<|Wz ⟨.inl rfl,_,mt,Rc (Rt0 rfl) (Rv),aM,?_⟩
 exact ⟨rfl,rfl⟩
theorem zerosB (n:Nat):zerosL n [.base (.int .u8 0)]=bytesC (List.replicate n 0):=by
 unfold zerosL bytesC
 induction n with
 | zero=>rfl
 | succ n ih=>simp [List.replicate_succ] at ih ⊢
def flB (n:Nb):Int:=IntKind.u8.wrap (IntKind.i64.wrap (n.fl * 2 ^ (min (5:Int).toNat IntKind.i64.bits)))
def fixL (n:Nb):List Int:=if n.k=133 then List.replicate 4 0 else if n.k=134 then List.replicate 12 0 else if n.k=137 then List.replicate 4 0++addrL n.tg++addrL n.tg else [flB n,0,0,0]++addrL n.tg
theorem fixed_any (n:Nb) (hl:n.ln.length=6) (hv:validA n.tg.v6 n.tg.hi n.tg.lo=true) (h1:U64 n.tg.hi) (h2:U64 n.tg.lo):AFn Tryz.prog 153 0 [.agg (nbC n)] mt (.osl 0 0 (fixL n).length 1) (up mt 0 (some (bytesC (fixL n)))):=by
 refine AFn.eq Tryz.func153 rfl rfl (Nat.le_of_ble_eq_true rfl) ?_
 have hb:=bytes_any n.tg hv h1 h2
 have p1:=addrL_pos n.tg
 have hto:Tk (nbC n) (0 + 2) 3 (adC n.tg):=nb_tkA n
 refine Wq<|qW 0 2 rfl<|qC rfl<|qA rfl<|Nl<|Wq<|qW 6 10 rfl<|qF rfl ty87 rfl<|qG rfl ty54 rfl (Tl rfl)<|Od rfl rfl (LO.callO (fr:=[]) rfl rfl (hb) fok180 (.cons rfl (.pure rfl) .nil) (bytesC_pure _) (by decide))<|qA rfl<|Nl<|Wq<|Wq<|qW 14 16 rfl<|qF rfl ty87 rfl<|qL rfl ty3 rfl<|Nl<|Wb ?_
 by_cases k1:n.k=133
 ·have g1:(n.k == 133)=true:=by simpa using k1
  have hf:fixL n=List.replicate 4 0:=if_pos k1
  rw [hf]
  refine Wq<|qW 20 22 rfl<|qE rfl<|qA rfl<|Nl<|Wt rfl ‹_›<|Wq<|qW 26 28 rfl<|Od rfl rfl (LO.makeSlice rfl rfl rfl rfl rfl ty24 ty5 (by decide) (by omega) (by decide) (by decide))<|qA rfl<|Nl ?_
  rw [zerosB]
  refine W.rename [(0,26)] 1 (T':=up mt 2 (some (.osl 0 0 (4) 1))) (H':=up mt 0 (some (bytesC (List.replicate 4 0)))) (by decide) ?_ ?_ ?_
  ·exact aU (lI rfl) aM
  ·exact aU (kR rfl) aM
  refine Wz ⟨.inl rfl,_,up mt 0 (some (bytesC (List.replicate 4 0))),Rc (Rt0 rfl) Rv,aU rfl aM,?_⟩
  exact ⟨rfl,rfl⟩
 ·have g1:(n.k == 133)=false:=by simpa using k1
  by_cases k2:n.k=134
  ·have g2:(n.k == 134)=true:=by simpa using k2
   have hf:fixL n=List.replicate 12 0:=by unfold fixL;rw [if_neg k1,if_pos k2]
   rw [hf]
   refine Wq<|qW 20 22 rfl<|qE rfl<|qA rfl<|Nl<|Wo rfl ‹_›<|Wq<|qW 32 34 rfl<|qE rfl<|qA rfl<|Nl<|Wt rfl ‹_›<|Wq<|qW 38 40 rfl<|Od rfl rfl (LO.makeSlice rfl rfl rfl rfl rfl ty24 ty5 (by decide) (by omega) (by decide) (by decide))<|qA rfl<|Nl ?_
   rw [zerosB]
   refine W.rename [(0,38)] 1 (T':=up mt 2 (some (.osl 0 0 (12) 1))) (H':=up mt 0 (some (bytesC (List.replicate 12 0)))) (by decide) ?_ ?_ ?_
   ·exact aU (lI rfl) aM
   ·exact aU (kR rfl) aM
   refine Wz ⟨.inl rfl,_,up mt 0 (some (bytesC (List.replicate 12 0))),Rc (Rt0 rfl) Rv,aU rfl aM,?_⟩
   exact ⟨rfl,rfl⟩
  ·have g2:(n.k == 134)=false:=by simpa using k2
   by_cases k3:n.k=137
   ·have g3:(n.k == 137)=true:=by simpa using k3
    have hf:fixL n=List.replicate 4 0++addrL n.tg++addrL n.tg:=by unfold fixL;rw [if_neg k1,if_neg k2,if_pos k3]
    rw [hf]
    refine Wq<|qW 20 22 rfl<|qE rfl<|qA rfl<|Nl<|Wo rfl ‹_›<|Wq<|qW 32 34 rfl<|qE rfl<|qA rfl<|Nl<|Wo rfl ‹_›<|Wq<|qW 44 46 rfl<|qE rfl<|qA rfl<|Nl<|Wt rfl ‹_›<|Wq<|qW 50 56 rfl<|Od rfl rfl (LO.makeSlice rfl rfl rfl rfl rfl ty24 ty5 (by decide) (by omega) (by decide) (by decide)) ?_
    rw [zerosB]
    refine qM rfl<|Od rfl rfl (Lap rfl rfl (Sso rfl rfl (bytes_tk rfl)) rfl (bytes_tk (l:=List.replicate 4 0) rfl) ty24 ty24 ty5 (by decide) (by (simp;omega)) (by (simp;omega)) (by decide)) ?_
    rw [← bytesC_app]
    refine qM rfl<|Od rfl rfl (Lap rfl rfl (Sso rfl rfl (bytes_tk rfl)) rfl (bytes_tk (l:=List.replicate 4 0++addrL n.tg) (by simp;omega)) ty24 ty24 ty5 (by decide) (by (simp;omega)) (by (simp;omega)) (by decide))<|qA rfl<|Nl ?_
    rw [← bytesC_app,show 4 + (addrL n.tg).length + (addrL n.tg).length=(List.replicate 4 (0:Int)++addrL n.tg++addrL n.tg).length from by simp;omega]
    refine W.rename [(0,54)] 1 (T':=up mt 2 (some (.osl 0 0 ((List.replicate 4 (0:Int)++addrL n.tg++addrL n.tg).length) 1))) (H':=up mt 0 (some (bytesC (List.replicate 4 0++addrL n.tg++addrL n.tg)))) (by decide) ?_ ?_ ?_
    ·exact aU (lI rfl) aM
    ·exact aU (kP rfl (bytesC_pure _)) aM
    refine Wz ⟨.inl rfl,_,up mt 0 (some (bytesC (List.replicate 4 0++addrL n.tg++addrL n.tg))),Rc (Rt0 rfl) Rv,aU rfl aM,?_⟩
    exact ⟨rfl,rfl⟩
   ·have g3:(n.k == 137)=false:=by simpa using k3
    have hf:fixL n=[flB n,0,0,0]++addrL n.tg:=by unfold fixL;rw [if_neg k1,if_neg k2,if_neg k3]
    rw [hf]
    refine Wq<|qW 20 22 rfl<|qE rfl<|qA rfl<|Nl<|Wo rfl ‹_›<|Wq<|qW 32 34 rfl<|qE rfl<|qA rfl<|Nl<|Wo rfl ‹_›<|Wq<|qW 44 46 rfl<|qE rfl<|qA rfl<|Nl<|Wo rfl ‹_›<|Wu<|Wq<|qW 60 68 rfl<|qF rfl ty87 rfl<|qL rfl ty3 rfl<|Od rfl rfl (LO.shl rfl rfl rfl (by decide))<|Od rfl rfl (LO.conv rfl rfl ty3 ty5)<|Od rfl rfl (LO.buildSlice rfl ty24 ty5 (by decide) (by decide) (.cons rfl rfl rfl rfl (Sl rfl) (.cons rfl rfl rfl rfl (Sl rfl) (.cons rfl rfl rfl rfl (Sl rfl) (.cons rfl rfl rfl rfl (Sl rfl) .nil)))))<|qM rfl<|Od rfl rfl (Lap rfl rfl (Sso rfl rfl (bytes_tk rfl)) rfl (Tl rfl) ty24 ty24 ty5 (by decide) (by omega) (by omega) (by decide))<|qA rfl<|Nl ?_
    rw [show [AV.base (.int .u8 (IntKind.u8.wrap (IntKind.i64.wrap (n.fl * 2 ^ (min (5:Int).toNat IntKind.i64.bits))))),AV.base (.int .u8 0),AV.base (.int .u8 0),AV.base (.int .u8 0)]++bytesC (addrL n.tg)=bytesC ([flB n,0,0,0]++addrL n.tg) from by rw [bytesC_app];rfl,show 4 + (addrL n.tg).length=([flB n,0,0,0]++addrL n.tg).length from by simp;omega]
    refine W.rename [(0,66)] 1 (T':=up mt 2 (some (.osl 0 0 (([flB n,0,0,0]++addrL n.tg).length) 1))) (H':=up mt 0 (some (bytesC ([flB n,0,0,0]++addrL n.tg)))) (by decide) ?_ ?_ ?_
    ·exact aU (lI rfl) aM
    ·exact aU (kP rfl (bytesC_pure _)) aM
    refine Wz ⟨.inl rfl,_,up mt 0 (some (bytesC ([flB n,0,0,0]++addrL n.tg))),Rc (Rt0 rfl) Rv,aU rfl aM,?_⟩
    exact ⟨rfl,rfl⟩
def encL (n:Nb):List Int:=[IntKind.u8.wrap n.k,0,0,0]++fixL n++(if n.has then [optN n.k,1]++n.ln else [])
def sumL2 (c:Int) (l:List Int):List Int:=(l.set 2 (IntKind.u8.wrap (c.fdiv (2 ^ (min (8:Int).toNat IntKind.u16.bits))))).set 3 (IntKind.u8.wrap c)
def encN (n:Nb) (s d:Ad):Pk:=⟨s,d,58,255,sumL2 (chkF s d 58 (encL n)) (encL n)⟩
def okN (n:Nb) (s d:Ad):Bool:=validN n && (s.v6 && d.v6)
def zPk:Pk:=⟨zAd,zAd,0,0,[]⟩
theorem fixL_isB (n:Nb):IsB (fixL n):=by
 unfold fixL
 split
 ·intro x hx;rw [List.eq_of_mem_replicate hx];decide
 ·split
  ·intro x hx;rw [List.eq_of_mem_replicate hx];decide
  ·split
   ·exact IsB.append (IsB.append (fun x hx=>by rw [List.eq_of_mem_replicate hx];decide) (addrL_isB _)) (addrL_isB _)
   ·refine IsB.append (fun x hx=>?_) (addrL_isB _)
    have:=u8_bd (IntKind.i64.wrap (n.fl * 2 ^ (min (5:Int).toNat IntKind.i64.bits)))
    simp only [List.mem_cons,List.not_mem_nil,or_false] at hx
    rcases hx with rfl|rfl|rfl|rfl
    ·exact this
    ·decide
    ·decide
    ·decide
theorem fixL_len (n:Nb):(fixL n).length≤36:=by
 have:=addrL_pos n.tg
 unfold fixL
 split
 ·simp
 ·split
  ·simp
  ·split<;>simp<;>omega
theorem optN_bd (k:Int):0≤optN k∧optN k≤255:=by unfold optN;split<;>decide
theorem encL_isB {n:Nb} (hB:IsB n.ln):IsB (encL n):=by
 refine IsB.append (IsB.append (fun x hx=>?_) (fixL_isB n)) ?_
 ·have:=u8_bd n.k
  simp only [List.mem_cons,List.not_mem_nil,or_false] at hx
  rcases hx with rfl|rfl|rfl|rfl
  ·exact this
  ·decide
  ·decide
  ·decide
 ·split
  ·refine IsB.append (fun x hx=>?_) hB
   have:=optN_bd n.k
   simp only [List.mem_cons,List.not_mem_nil,or_false] at hx
   rcases hx with rfl|rfl
   ·exact this
   ·decide
  ·intro x hx;cases hx
theorem encL_len {n:Nb} (hl:n.ln.length=6):4≤(encL n).length∧(encL n).length≤48:=by
 have:=fixL_len n
 unfold encL
 split<;>simp [hl]<;>omega
theorem validN_tg {n:Nb} (h:validN n=true):validA n.tg.v6 n.tg.hi n.tg.lo=true:=by
 unfold validN at h
 simp only [Bool.and_eq_true] at h
 have h7:=h.2.2.2.2.2.2
 split at h7
 ·simp only [Bool.and_eq_true] at h7
  unfold validA;rw [h7.1];rfl
 ·rw [eqA_iff.1 h7];rfl
theorem nbC_pure (n:Nb):(nbC n).all AV.pure1=true:=by
 unfold nbC adC
 rw [List.all_append,bytesC_pure];rfl
theorem tk_len {cs:List AV} {n:Nat} (h:cs.length=n * 1):Tk cs 0 (n * 1) cs:=by rw [← h];exact Tk.all cs
theorem sumL2_len (c:Int) (l:List Int):(sumL2 c l).length=l.length:=by simp [sumL2]
def encV (n:Nb) (s d:Ad):AV:=.tup [.agg (pkC (if okN n s d then encN n s d else zPk)),.base (.int .i64 (if okN n s d then 0 else 1))]
end Go.Proofs.YtlcndmciognneaaGreatDoor
