/-
  The bytes of an address: both texts.
-/
import Derived.Test.YtcidmiacfjdepaaGreatDoorQe
import Derived.Test.YtcidmiacfjdepaaGreatDoorMab
namespace Go.Proofs.YtcidmiacfjdepaaGreatDoor
open Go.RowKit
/-- the last j bytes are written -/
def bufB (n j:Nat) (N:Int):List Int:=(List.range n).map fun p=>if p < n - j then 0 else byteN N (n - 1 - p)
theorem bufB_len (n j:Nat) (N:Int):(bufB n j N).length=n:=by simp [bufB]
theorem bufB_zero (n:Nat) (N:Int):bytesC (bufB n 0 N)=zerosL n [.base (.int .u8 0)]:=by
  unfold bufB bytesC zerosL
  rw [List.map_map]
  refine List.ext_getElem (by simp) fun k h1 h2=>?_
  simp at h1
  simp [h1]
theorem bufB_full (n:Nat) (N:Int):bufB n n N=beN n N:=by
  unfold bufB beN
  refine List.map_congr_left fun p _=>?_
  simp
theorem bufB_set {n j:Nat} {N x:Int} (hj:j < n) (hx:x=byteN N j):(bufB n j N).set (n - 1 - j) x=bufB n (j + 1) N:=by
  refine List.ext_getElem (by simp [bufB]) fun k h1 h2=>?_
  simp only [bufB,List.getElem_set,List.getElem_map,List.getElem_range]
  have hk:k < n:=by simpa [bufB] using h2
  by_cases e:n - 1 - j=k
  · rw [if_pos e,if_neg (by omega),hx,show n - 1 - k=j from by omega]
  · rw [if_neg e]
    by_cases h3:k < n - j
    · rw [if_pos h3,if_pos (by omega)]
    · rw [if_neg h3,if_neg (by omega)]
theorem by_sp {l:List Int} {k:Nat} {v:Int} (h:k < l.length):Sp (bytesC l) (0 + k * 1) [.base (.int .u8 v)] (bytesC (l.set k v)):=by
  have:=Sp.set (bytesC l) k (.base (.int .u8 v)) (by rwa [bytesC_len])
  rw [show bytesC (l.set k v)=(bytesC l).set k (.base (.int .u8 v)) from by simp [bytesC,List.map_set]]
  simpa using this
def numA (a:Ad):Int:=a.hi * 18446744073709551616 + a.lo
def addrL (a:Ad):List Int:=addrB a.v6 a.hi a.lo
theorem addrL_len (a:Ad):(addrL a).length=if a.v6 then 16 else 4:=addrB_len _ _ _
theorem addrL_isB (a:Ad):IsB (addrL a):=by unfold addrL addrB;exact beN_isB _ _
theorem or_split (p:Ad) (h1:U64 p.hi) (h2:U64 p.lo):bitV .or .u64 (p.lo.fdiv (2 ^ (min (8:Int).toNat IntKind.u64.bits))) (IntKind.u64.wrap (p.hi * 2 ^ (min (56:Int).toNat IntKind.u64.bits)))=p.lo / 256 + p.hi % 256 * 72057594037927936:=by
  rw [show (2:Int) ^ (min (8:Int).toNat IntKind.u64.bits)=256 from by decide,show (2:Int) ^ (min (56:Int).toNat IntKind.u64.bits)=72057594037927936 from by decide,Int.fdiv_eq_ediv_of_nonneg _ (by decide)]
  exact u64_or_split h1.1 h2.1 h2.2
theorem byte_lo (p:Ad):IntKind.u8.wrap p.lo=numA p % 256:=by rw [IntKind.wrap_u8'];unfold numA;omega
theorem bytes_any (a:Ad) (hv:validA a.v6 a.hi a.lo=true) (h1:U64 a.hi) (h2:U64 a.lo):AFn Tryz.prog 92 0 [.agg (adC a)] mt (.osl 0 0 (addrL a).length 1) (up mt 0 (some (bytesC (addrL a)))):=by
  refine AFn.eq Tryz.func92 rfl rfl (Nat.le_of_ble_eq_true rfl) ?_
  have hav:=avalid_any a
  rw [hv] at hav
  obtain ⟨n,hn⟩:∃ n,(if a.v6 then 16 else 4)=n:=⟨_,rfl⟩
  have hlen:(addrL a).length=n:=by rw [addrL_len,hn]
  have hbe:addrL a=beN n (numA a):=by unfold addrL addrB;rw [hn];rfl
  rw [hlen]
  obtain ⟨N,hN⟩:∃ N,numA a=N:=⟨_,rfl⟩
  rw [hN] at hbe
  have hn16:1≤n∧n≤16:=by rw [← hn];split<;>omega
  refine Wq (qW 0 2 rfl rfl rfl (qC rfl rfl rfl (qA rfl rfl (Nl (Wq (Wq (qW 6 9 rfl rfl rfl (qG rfl rfl rfl ty42 rfl (Tl rfl) (Od rfl rfl (C0 (fr:=[]) rfl rfl (hav) fok87 (.cons rfl (.pure rfl) .nil) rfl) (qO rfl rfl (Nl (Wf rfl rfl (Wk (Wq (qW 18 19 rfl rfl rfl (qA rfl rfl (Nl ?_)))))))))))))))))
  have hnc:a.v6=true∧n=16∨a.v6=false∧n=4:=by
    cases hb:a.v6<;>rw [hb] at hn<;>simp at hn
    · exact .inr ⟨rfl,hn.symm⟩
    · exact .inl ⟨rfl,hn.symm⟩
  unfold adC
  refine Wq (Wq (qW 23 25 rfl rfl rfl (qF rfl rfl ty42 rfl rfl (qL rfl rfl rfl rfl ty4 rfl (Nl ?_)))))
  rcases hnc with ⟨hb,hn4⟩|⟨hb,hn4⟩
  case' inl =>
    refine Wt rfl ‹_› (qW 29 30 rfl rfl rfl (qA rfl rfl (Nl ?_)))
    rw [show (16:Int)=((n:Nat):Int) from by rw [hn4];rfl]
  case' inr =>
    refine Wf rfl ‹_› (Wk ?_)
    rw [show (4:Int)=((n:Nat):Int) from by rw [hn4];rfl]
  all_goals
    repeat (refine W.seq ?_)
    refine qW 34 37 rfl rfl rfl (qM rfl rfl (Od rfl rfl (LO.makeSlice rfl rfl rfl rfl rfl ty24 ty5 (by decide) (by first|omega|decide|assumption|(simp;done)|(simp;omega)) (by first|omega|decide|assumption|(simp;done)|(simp;omega)) (by first|omega|decide|assumption|(simp;done)|(simp;omega))) (qA rfl rfl (Nl ?_))))
    rw [← bufB_zero n N]
    repeat (refine W.seq ?_)
    refine qW 41 44 rfl rfl rfl (qM rfl rfl (Od rfl rfl (LO.sub_in rfl rfl rfl (by (first|exact IntWalk.i64_in _ (by omega)|assumption))) (qA rfl rfl (Nl ?_))))
    rw [show (n:Int) - 1=((n:Nat):Int) - 1 - ((0:Nat):Int) from by omega]
    refine Wb (W.loop_keep (α:=Nat × Ad) (fun x=>n - x.1) 2 (fun x=>[(1,.own 0 0),(4,.osl 1 0 n 1),(5,.base (.int .i64 ((n:Int) - 1 - (x.1:Int))))]) (fun x=>up (up mt 0 (some (adC x.2))) 1 (some (bytesC (bufB n x.1 N)))) (fun x=>(x.1≤n∧U64 x.2.hi∧U64 x.2.lo)∧numA x.2=N / 256 ^ x.1) (0,a) [(0,0),(1,35)] .nil (show (0≤n∧U64 a.hi∧U64 a.lo)∧numA a=N / 256 ^ 0 from ⟨⟨Nat.zero_le _,h1,h2⟩,by rw [hN];simp⟩) (by decide) ?_ ?_ ?_)
    · (repeat' (first|exact LookR.nil|refine LookR.cons ?_ ?_))<;>first|exact .inl ⟨rfl,rfl⟩|exact .inr ⟨rfl,fun _ h=>by cases h⟩|exact .inl ⟨rfl,by first|rfl|assumption|exact (bytesC_pure _)⟩
    · (repeat' (first|exact all_mt|refine all_up ?_ ?_))<;>first|exact ⟨rfl,_,rfl,.inr ⟨rfl,rfl⟩⟩|exact ⟨rfl,_,rfl,.inl rfl⟩|exact ⟨rfl,_,rfl,.inr ⟨rfl,by first|rfl|assumption|exact (bytesC_pure _)⟩⟩
    rintro ⟨j,p⟩ hIA ihA
    try (dsimp only at hIA)
    try dsimp only [baseT,List.cons_append,List.nil_append]
    obtain ⟨⟨hj,k1,k2⟩,hq⟩:=hIA
    by_cases hc:j < n
    · have g1:decide ((n:Int) - 1 - (j:Int) ≥ 0)=true:=decide_eq_true (by omega)
      have hbl:=byte_lo p
      have hby:IntKind.u8.wrap p.lo=byteN N j:=by rw [hbl,hq];rfl
      have hset:=bufB_set hc hby
      have e1:=or_split p k1 k2
      have e2:p.hi.fdiv (2 ^ (min (8:Int).toNat IntKind.u64.bits))=p.hi / 256:=by
        rw [show (2:Int) ^ (min (8:Int).toNat IntKind.u64.bits)=256 from by decide];exact Int.fdiv_eq_ediv_of_nonneg _ (by decide)
      have hnn:=beN_N p.hi p.lo k2.1 k2.2
      unfold U64 at k1 k2
      repeat (refine W.seq ?_)
      refine qW 48 50 rfl rfl rfl (qM rfl rfl (Od rfl rfl (Ge0 rfl rfl rfl) (Nl (Wt rfl ‹_› (Wk ?_)))))
      repeat (refine W.seq ?_)
      refine Wb ?_
      unfold adC
      repeat (refine W.seq ?_)
      refine qW 54 61 rfl rfl rfl (qM rfl rfl (qM rfl rfl (qF rfl rfl ty42 rfl rfl (qL rfl rfl rfl rfl ty40 rfl (Od rfl rfl (LO.conv rfl rfl ty40 ty5) (Od rfl rfl (Ia rfl rfl rfl (show (n:Int) - 1 - (j:Int)=((n - 1 - j:Nat):Int) from by omega) ty24 ty5 (by first|omega|decide|assumption|(simp;done)|(simp;omega))) (qS rfl rfl rfl rfl rfl ty5 rfl rfl (by_sp (by rw [bufB_len];omega)) (Nl ?_))))))))
      rw [hset]
      repeat (refine W.seq ?_)
      refine qW 65 74 rfl rfl rfl (qF rfl rfl ty42 rfl rfl (qL rfl rfl rfl rfl ty40 rfl (Od rfl rfl (LO.shr rfl rfl rfl (by first|omega|decide|assumption|(simp;done)|(simp;omega))) (qF rfl rfl ty42 rfl rfl (qL rfl rfl rfl rfl ty40 rfl (Od rfl rfl (LO.shl rfl rfl rfl (by first|omega|decide|assumption|(simp;done)|(simp;omega))) (Od rfl rfl (LO.or rfl rfl rfl) (qF rfl rfl ty42 rfl rfl (qS rfl rfl rfl rfl rfl ty40 rfl rfl (Sl rfl) (Nl ?_))))))))))
      rw [e1]
      refine qW 78 83 rfl rfl rfl (qF rfl rfl ty42 rfl rfl (qL rfl rfl rfl rfl ty40 rfl (Od rfl rfl (LO.shr rfl rfl rfl (by first|omega|decide|assumption|(simp;done)|(simp;omega))) (qF rfl rfl ty42 rfl rfl (qS rfl rfl rfl rfl rfl ty40 rfl rfl (Sl rfl) (Nl ?_))))))
      rw [e2]
      refine qW 87 90 rfl rfl rfl (qM rfl rfl (Od rfl rfl (LO.sub_in rfl rfl rfl (by (first|exact IntWalk.i64_in _ (by omega)|assumption))) (qA rfl rfl (Nl ?_))))
      rw [show (n:Int) - 1 - (j:Int) - 1=(n:Int) - 1 - ((j + 1:Nat):Int) from by omega]
      refine WL.renameL [(0,0),(1,1)] 2 (by decide) ?_ ?_ (ihA ((j + 1),(Ad.mk p.v6 (p.hi / 256) (p.lo / 256 + p.hi % 256 * 72057594037927936))) (show n - (j + 1) < n - j from by omega) (show ((j + 1)≤n∧U64 (Ad.mk p.v6 (p.hi / 256) (p.lo / 256 + p.hi % 256 * 72057594037927936)).hi∧U64 (Ad.mk p.v6 (p.hi / 256) (p.lo / 256 + p.hi % 256 * 72057594037927936)).lo)∧numA (Ad.mk p.v6 (p.hi / 256) (p.lo / 256 + p.hi % 256 * 72057594037927936))=N / 256 ^ (j + 1) from ⟨⟨by omega,by unfold U64;dsimp only;omega,by unfold U64;dsimp only;omega⟩,by rw [div_succ,← hq];exact hnn.symm⟩))
      · (repeat' (first|exact LookR.nil|refine LookR.cons ?_ ?_))<;>first|exact .inl ⟨rfl,rfl⟩|exact .inr ⟨rfl,fun _ h=>by cases h⟩|exact .inl ⟨rfl,by first|rfl|assumption|exact (bytesC_pure _)⟩
      · (repeat' (first|exact all_mt|refine all_up ?_ ?_))<;>first|exact ⟨rfl,_,rfl,.inr ⟨rfl,rfl⟩⟩|exact ⟨rfl,_,rfl,.inl rfl⟩|exact ⟨rfl,_,rfl,.inr ⟨rfl,by first|rfl|assumption|exact (bytesC_pure _)⟩⟩
    · have g1:decide ((n:Int) - 1 - (j:Int) ≥ 0)=false:=decide_eq_false (by omega)
      repeat (refine W.seq ?_)
      refine qW 48 50 rfl rfl rfl (qM rfl rfl (Od rfl rfl (Ge0 rfl rfl rfl) (Nl (Wf rfl ‹_› (Wx ?_)))))
      obtain rfl:j=n:=by omega
      repeat (refine W.seq ?_)
      refine qW 94 96 rfl rfl rfl (qM rfl rfl (qA rfl rfl (Nl ?_)))
      rw [bufB_full,← hbe]
      refine W.rename [(0,1)] 1 (T':=up mt 2 (some (.osl 0 0 (j) 1))) (H':=up mt 0 (some (bytesC (addrL a)))) (by decide) ?_ ?_ ?_
      · (repeat' (first|exact all_mt|refine all_up ?_ ?_))<;>first|exact .inl ⟨rfl,rfl⟩|exact .inr ⟨rfl,fun _ h=>by cases h⟩|exact .inl ⟨rfl,by first|rfl|assumption|exact (bytesC_pure _)⟩
      · (repeat' (first|exact all_mt|refine all_up ?_ ?_))<;>first|exact ⟨rfl,_,rfl,.inr ⟨rfl,rfl⟩⟩|exact ⟨rfl,_,rfl,.inl rfl⟩|exact ⟨rfl,_,rfl,.inr ⟨rfl,by first|rfl|assumption|exact (bytesC_pure _)⟩⟩
      refine Wz ⟨.inl rfl,_,up mt 0 (some (bytesC (addrL a))),Rc (Rt rfl) Rn,all_up rfl all_mt,?_⟩
      exact ⟨rfl,rfl⟩
theorem bytesX_any (a:Ad) (hv:validA a.v6 a.hi a.lo=true) (_h1:U64 a.hi) (h2:U64 a.lo):AFn Tryz.prog 44 0 [.agg (adC a)] mt (.osl 0 0 (addrL a).length 1) (up mt 0 (some (bytesC (addrL a)))):=by
  refine AFn.eq Tryz.func44 rfl rfl (Nat.le_of_ble_eq_true rfl) ?_
  have hav:=rvalid_any a
  rw [hv] at hav
  obtain ⟨n,hn⟩:∃ n,(if a.v6 then 16 else 4)=n:=⟨_,rfl⟩
  have hlen:(addrL a).length=n:=by rw [addrL_len,hn]
  have hbe:addrL a=beN n (numA a):=by unfold addrL addrB;rw [hn];rfl
  have hpn:preB n n (numA a)=beN n (numA a):=rfl
  rw [hlen]
  have hn16:1≤n∧n≤16:=by rw [← hn];split<;>omega
  have hba:=fun i hi=>byteN_at a.hi a.lo h2.1 h2.2 i hi
  refine Wq (qW 0 2 rfl rfl rfl (qC rfl rfl rfl (qA rfl rfl (Nl (Wq (Wq (qW 6 9 rfl rfl rfl (qG rfl rfl rfl ty42 rfl (Tl rfl) (Od rfl rfl (C0 (fr:=[]) rfl rfl (hav) fok83 (.cons rfl (.pure rfl) .nil) rfl) (qO rfl rfl (Nl (Wf rfl rfl (Wk (Wq (qW 18 19 rfl rfl rfl (qA rfl rfl (Nl ?_)))))))))))))))))
  have hnc:a.v6=true∧n=16∨a.v6=false∧n=4:=by
    cases hb:a.v6<;>rw [hb] at hn<;>simp at hn
    · exact .inr ⟨rfl,hn.symm⟩
    · exact .inl ⟨rfl,hn.symm⟩
  unfold adC
  refine Wq (Wq (qW 23 25 rfl rfl rfl (qF rfl rfl ty42 rfl rfl (qL rfl rfl rfl rfl ty4 rfl (Nl ?_)))))
  rcases hnc with ⟨hb,hn4⟩|⟨hb,hn4⟩
  case' inl =>
    refine Wt rfl ‹_› (qW 29 30 rfl rfl rfl (qA rfl rfl (Nl ?_)))
    rw [show (16:Int)=((n:Nat):Int) from by rw [hn4];rfl]
  case' inr =>
    refine Wf rfl ‹_› (Wk ?_)
    rw [show (4:Int)=((n:Nat):Int) from by rw [hn4];rfl]
  all_goals
    repeat (refine W.seq ?_)
    refine qW 34 35 rfl rfl rfl (qA rfl rfl (Nl ?_))
    repeat (refine W.seq ?_)
    refine qW 39 42 rfl rfl rfl (qM rfl rfl (Od rfl rfl (LO.sub_in rfl rfl rfl (by (first|exact IntWalk.i64_in _ (by omega)|assumption))) (qA rfl rfl (Nl (W.name 42 (42 + 1) (t:=4) (sz:=1) rfl (by decide) (by decide) ?_)))))
    rw [show (n:Int) - 1=((n:Nat):Int) - 1 - ((0:Nat):Int) from by omega]
    refine Wb (W.loop_keep (α:=Nat) (fun x=>n - x) 2 (fun x=>[(1,.own 0 0),(4,.osl 1 0 (preB n x (numA a)).length 1),(5,.base (.int .i64 ((n:Int) - 1 - (x:Int))))]) (fun x=>up (up mt 0 (some (adC a))) 1 (some (bytesC (preB n x (numA a))))) (fun x=>x≤n) 0 [(0,0),(1,42)] .nil (show 0≤n from Nat.zero_le _) (by decide) ?_ ?_ ?_)
    · (repeat' (first|exact LookR.nil|refine LookR.cons ?_ ?_))<;>first|exact .inl ⟨rfl,rfl⟩|exact .inr ⟨rfl,fun _ h=>by cases h⟩|exact .inl ⟨rfl,by first|rfl|assumption|exact (bytesC_pure _)⟩
    · (repeat' (first|exact all_mt|refine all_up ?_ ?_))<;>first|exact ⟨rfl,_,rfl,.inr ⟨rfl,rfl⟩⟩|exact ⟨rfl,_,rfl,.inl rfl⟩|exact ⟨rfl,_,rfl,.inr ⟨rfl,by first|rfl|assumption|exact (bytesC_pure _)⟩⟩
    rintro j hIA ihA
    try (dsimp only at hIA)
    try dsimp only [baseT,List.cons_append,List.nil_append]
    have hpl:=preB_len n j (numA a)
    by_cases hc:j < n
    · have g1:decide ((n:Int) - 1 - (j:Int) ≥ 0)=true:=decide_eq_true (by omega)
      have hsn:=preB_snoc n j (numA a)
      obtain ⟨q,hqe⟩:∃ q,n - 1 - j=q:=⟨_,rfl⟩
      have hqi:(n:Int) - 1 - (j:Int)=(q:Int):=by omega
      have hba:=hba q (by omega)
      rw [hqe] at hsn
      have hmod:(8:Int) * ((q:Int) % 8)=((8 * (q % 8):Nat):Int):=by omega
      have hsh:∀ w:Int,IntKind.u8.wrap (w.fdiv (2 ^ (min (((8 * (q % 8):Nat):Int)).toNat IntKind.u64.bits)))=w / 2 ^ (8 * (q % 8)) % 256:=fun w=>by
        rw [Int.toNat_natCast,Nat.min_eq_left (show 8 * (q % 8)≤IntKind.u64.bits from by show _≤64;omega),Int.fdiv_eq_ediv_of_nonneg _ (Int.le_of_lt (Int.pow_pos (by decide))),IntKind.wrap_u8']
      rw [hqi]
      rw [hqi] at g1
      unfold adC
      repeat (refine W.seq ?_)
      refine qW 46 48 rfl rfl rfl (qM rfl rfl (Od rfl rfl (Ge0 rfl rfl rfl) (Nl (Wt rfl rfl (Wk ?_)))))
      repeat (refine W.seq ?_)
      refine Wb ?_
      repeat (refine W.seq ?_)
      refine qW 52 55 rfl rfl rfl (qF rfl rfl ty42 rfl rfl (qL rfl rfl rfl rfl ty40 rfl (qA rfl rfl (Nl ?_))))
      by_cases h8:8≤q
      · have g2:decide ((q:Int) ≥ 8)=true:=decide_eq_true (by omega)
        rw [if_pos h8] at hba
        have hfin:IntKind.u8.wrap ((a.hi).fdiv (2 ^ (min (((8 * (q % 8):Nat):Int)).toNat IntKind.u64.bits)))=byteN (numA a) q:=by rw [hsh,hba];rfl
        repeat (refine W.seq ?_)
        refine qW 59 61 rfl rfl rfl (qM rfl rfl (Od rfl rfl (Ge0 rfl rfl rfl) (Nl (Wt rfl ‹_› (qW 65 68 rfl rfl rfl (qF rfl rfl ty42 rfl rfl (qL rfl rfl rfl rfl ty40 rfl (qA rfl rfl (Nl (qW 72 83 rfl rfl rfl (qM rfl rfl (qM rfl rfl (qM rfl rfl (Od rfl rfl (LO.rem_in rfl rfl rfl (by first|omega) (by first|omega|decide|assumption|(simp;done)|(simp;omega))) (Od rfl rfl (Ci rfl rfl ty3 ty114 (by (first|exact IntWalk.u64_in _ (by omega)|assumption))) (Od rfl rfl (LO.mul_in rfl rfl rfl (by (first|exact IntWalk.u64_in _ (by omega)|assumption))) ?_))))))))))))))))
        rw [hmod]
        refine Od rfl rfl (LO.shr rfl rfl rfl (by first|omega|decide|assumption|(simp;done)|(simp;omega))) (Od rfl rfl (LO.conv rfl rfl ty40 ty5) ?_)
        rw [hfin]
        refine Od rfl rfl (LO.buildSlice rfl ty24 ty5 (by decide) (by decide) (.cons rfl rfl rfl rfl (Sl rfl) .nil)) (Od rfl rfl (Lap rfl rfl (Sso rfl rfl (Tl rfl)) rfl (bytes_tk rfl) ty24 ty24 ty5 (by decide) (by first|omega|decide|assumption|(simp;done)|(simp;omega)) (by first|omega|decide|assumption|(simp;done)|(simp;omega)) (by first|decide|omega)) (qA rfl rfl (Nl ?_)))
        rw [show bytesC (preB n j (numA a))++[AV.base (.int .u8 (byteN (numA a) q))]=bytesC (preB n (j + 1) (numA a)) from by rw [hsn,bytesC_app];rfl,show (preB n j (numA a)).length + 1=(preB n (j + 1) (numA a)).length from by rw [preB_len,preB_len]]
        refine qW 87 90 rfl rfl rfl (qM rfl rfl (Od rfl rfl (LO.sub_in rfl rfl rfl (by (first|exact IntWalk.i64_in _ (by omega)|assumption))) (qA rfl rfl (Nl ?_))))
        rw [show (q:Int) - 1=(n:Int) - 1 - ((j + 1:Nat):Int) from by omega]
        refine WL.renameL [(0,0),(1,81)] 2 (by decide) ?_ ?_ (ihA (j + 1) (show n - (j + 1) < n - j from by omega) (show (j + 1)≤n from by omega))
        · (repeat' (first|exact LookR.nil|refine LookR.cons ?_ ?_))<;>first|exact .inl ⟨rfl,rfl⟩|exact .inr ⟨rfl,fun _ h=>by cases h⟩|exact .inl ⟨rfl,by first|rfl|assumption|exact (bytesC_pure _)⟩
        · (repeat' (first|exact all_mt|refine all_up ?_ ?_))<;>first|exact ⟨rfl,_,rfl,.inr ⟨rfl,rfl⟩⟩|exact ⟨rfl,_,rfl,.inl rfl⟩|exact ⟨rfl,_,rfl,.inr ⟨rfl,by first|rfl|assumption|exact (bytesC_pure _)⟩⟩
      · have g2:decide ((q:Int) ≥ 8)=false:=decide_eq_false (by omega)
        rw [if_neg h8] at hba
        have hfin:IntKind.u8.wrap ((a.lo).fdiv (2 ^ (min (((8 * (q % 8):Nat):Int)).toNat IntKind.u64.bits)))=byteN (numA a) q:=by rw [hsh,hba];rfl
        repeat (refine W.seq ?_)
        refine qW 59 61 rfl rfl rfl (qM rfl rfl (Od rfl rfl (Ge0 rfl rfl rfl) (Nl (Wf rfl ‹_› (Wk (qW 72 83 rfl rfl rfl (qM rfl rfl (qM rfl rfl (qM rfl rfl (Od rfl rfl (LO.rem_in rfl rfl rfl (by first|omega) (by first|omega|decide|assumption|(simp;done)|(simp;omega))) (Od rfl rfl (Ci rfl rfl ty3 ty114 (by (first|exact IntWalk.u64_in _ (by omega)|assumption))) (Od rfl rfl (LO.mul_in rfl rfl rfl (by (first|exact IntWalk.u64_in _ (by omega)|assumption))) ?_))))))))))))
        rw [hmod]
        refine Od rfl rfl (LO.shr rfl rfl rfl (by first|omega|decide|assumption|(simp;done)|(simp;omega))) (Od rfl rfl (LO.conv rfl rfl ty40 ty5) ?_)
        rw [hfin]
        refine Od rfl rfl (LO.buildSlice rfl ty24 ty5 (by decide) (by decide) (.cons rfl rfl rfl rfl (Sl rfl) .nil)) (Od rfl rfl (Lap rfl rfl (Sso rfl rfl (Tl rfl)) rfl (bytes_tk rfl) ty24 ty24 ty5 (by decide) (by first|omega|decide|assumption|(simp;done)|(simp;omega)) (by first|omega|decide|assumption|(simp;done)|(simp;omega)) (by first|decide|omega)) (qA rfl rfl (Nl ?_)))
        rw [show bytesC (preB n j (numA a))++[AV.base (.int .u8 (byteN (numA a) q))]=bytesC (preB n (j + 1) (numA a)) from by rw [hsn,bytesC_app];rfl,show (preB n j (numA a)).length + 1=(preB n (j + 1) (numA a)).length from by rw [preB_len,preB_len]]
        refine qW 87 90 rfl rfl rfl (qM rfl rfl (Od rfl rfl (LO.sub_in rfl rfl rfl (by (first|exact IntWalk.i64_in _ (by omega)|assumption))) (qA rfl rfl (Nl ?_))))
        rw [show (q:Int) - 1=(n:Int) - 1 - ((j + 1:Nat):Int) from by omega]
        refine WL.renameL [(0,0),(1,81)] 2 (by decide) ?_ ?_ (ihA (j + 1) (show n - (j + 1) < n - j from by omega) (show (j + 1)≤n from by omega))
        · (repeat' (first|exact LookR.nil|refine LookR.cons ?_ ?_))<;>first|exact .inl ⟨rfl,rfl⟩|exact .inr ⟨rfl,fun _ h=>by cases h⟩|exact .inl ⟨rfl,by first|rfl|assumption|exact (bytesC_pure _)⟩
        · (repeat' (first|exact all_mt|refine all_up ?_ ?_))<;>first|exact ⟨rfl,_,rfl,.inr ⟨rfl,rfl⟩⟩|exact ⟨rfl,_,rfl,.inl rfl⟩|exact ⟨rfl,_,rfl,.inr ⟨rfl,by first|rfl|assumption|exact (bytesC_pure _)⟩⟩
    · have g1:decide ((n:Int) - 1 - (j:Int) ≥ 0)=false:=decide_eq_false (by omega)
      repeat (refine W.seq ?_)
      refine qW 46 48 rfl rfl rfl (qM rfl rfl (Od rfl rfl (Ge0 rfl rfl rfl) (Nl (Wf rfl ‹_› (Wx ?_)))))
      obtain rfl:j=n:=by omega
      rw [preB_len,hpn,← hbe]
      repeat (refine W.seq ?_)
      refine qW 94 96 rfl rfl rfl (qM rfl rfl (qA rfl rfl (Nl (W.rename [(0,1)] 1 (T':=up mt 2 (some (.osl 0 0 (j) 1))) (H':=up mt 0 (some (bytesC (addrL a)))) (by decide) ?_ ?_ ?_))))
      · (repeat' (first|exact all_mt|refine all_up ?_ ?_))<;>first|exact .inl ⟨rfl,rfl⟩|exact .inr ⟨rfl,fun _ h=>by cases h⟩|exact .inl ⟨rfl,by first|rfl|assumption|exact (bytesC_pure _)⟩
      · (repeat' (first|exact all_mt|refine all_up ?_ ?_))<;>first|exact ⟨rfl,_,rfl,.inr ⟨rfl,rfl⟩⟩|exact ⟨rfl,_,rfl,.inl rfl⟩|exact ⟨rfl,_,rfl,.inr ⟨rfl,by first|rfl|assumption|exact (bytesC_pure _)⟩⟩
      refine Wz ⟨.inl rfl,_,up mt 0 (some (bytesC (addrL a))),Rc (Rt rfl) Rn,all_up rfl all_mt,?_⟩
      exact ⟨rfl,rfl⟩
end Go.Proofs.YtcidmiacfjdepaaGreatDoor
