/-
  Check sums, addresses from bytes: both texts.
-/
import Derived.Test.YtcidmiacfjdepaaGreatDoorQd
import Derived.Test.YtcidmiacfjdepaaGreatDoorMab
namespace Go.Proofs.YtcidmiacfjdepaaGreatDoor
open Go.RowKit
theorem i64_and {n:Int} (h0:0≤n) (h1:n < 9223372036854775808):bitV .and .i64 n 65535=n % 65536:=by
  obtain ⟨k,rfl⟩:=Int.eq_ofNat_of_zero_le h0
  have e1:(BitVec.ofInt IntKind.i64.bits (k:Int) &&& BitVec.ofInt IntKind.i64.bits 65535).toNat=k % 65536:=by
    rw [BitVec.toNat_and]
    have a1:(BitVec.ofInt IntKind.i64.bits (k:Int)).toNat=k:=by
      simp only [BitVec.toNat_ofInt,IntKind.bits];omega
    have a2:(BitVec.ofInt IntKind.i64.bits (65535:Int)).toNat=2 ^ 16 - 1:=by decide
    rw [a1,a2,Nat.and_two_pow_sub_one_eq_mod]
  show IntKind.i64.wrap ((BitVec.ofInt IntKind.i64.bits (k:Int) &&& BitVec.ofInt IntKind.i64.bits 65535).toNat:Nat)=_
  rw [e1,IntWalk.i64_in _ (by omega)]
  omega
theorem fb_one (p:Int × Int) (x:Int):bitV .or .u64 (IntKind.u64.wrap (p.1 * 2 ^ (min (8:Int).toNat IntKind.u64.bits))) (p.2.fdiv (2 ^ (min (56:Int).toNat IntKind.u64.bits)))=(fbStep p x).1:=by
  rw [show (2:Int) ^ (min (56:Int).toNat IntKind.u64.bits)=72057594037927936 from by decide,Int.fdiv_eq_ediv_of_nonneg _ (by decide)]
  rfl
theorem sum_any (l:List Int) (hB:IsB l) (hl:l.length≤1000000):AFn Tryz.prog 89 0 [.isl (bytesC l) l.length] mt (.base (.int .u16 (sumL l))) mt:=by
  refine AFn.eq Tryz.func89 rfl rfl (Nat.le_of_ble_eq_true rfl) (Wq (qW 0 1 rfl rfl rfl (qA rfl rfl (Nl (Wq (qW 5 6 rfl rfl rfl (qA rfl rfl (Nl (Wq (Wq (qW 10 13 rfl rfl rfl (qM rfl rfl (qH rfl rfl rfl ty24 (qM rfl rfl (Nl (Wb (W.loop_keep (α:=Nat) (fun x=>l.length - x) 0 (fun x=>[(3,.base (.int .i64 (accN (gB l) x))),(8,.base (.int .i64 (x:Int)))]) (fun x=>mt) (fun x=>x≤l.length) 0 [] (.cons (t:=6) rfl (by first|exact .inl rfl|exact .inr ⟨rfl,fun _ h=>by cases h⟩|(exact .inl (by assumption))|exact .inl (bytesC_pure _)) (.cons (t:=7) rfl (by first|exact .inl rfl|exact .inr ⟨rfl,fun _ h=>by cases h⟩|(exact .inl (by assumption))|exact .inl (bytesC_pure _)) .nil)) (show 0≤l.length from Nat.zero_le _) (by decide) ?_ ?_ ?_)))))))))))))))))
  · (repeat' (first|exact LookR.nil|refine LookR.cons ?_ ?_))<;>first|exact .inl ⟨rfl,rfl⟩|exact .inr ⟨rfl,fun _ h=>by cases h⟩|exact .inl ⟨rfl,by first|rfl|assumption|exact (bytesC_pure _)⟩
  · (repeat' (first|exact all_mt|refine all_up ?_ ?_))<;>first|exact ⟨rfl,_,rfl,.inr ⟨rfl,rfl⟩⟩|exact ⟨rfl,_,rfl,.inl rfl⟩|exact ⟨rfl,_,rfl,.inr ⟨rfl,by first|rfl|assumption|exact (bytesC_pure _)⟩⟩
  rintro i hIA ihA
  try (dsimp only at hIA)
  try dsimp only [baseT,List.cons_append,List.nil_append]
  have hbd:=accN_bd (gB l) i (fun j=>hB.at j)
  by_cases hc:i < l.length
  · have g1:decide ((i:Int) < (l.length:Int))=true:=decide_eq_true (by omega)
    have hx:=hB.at i
    have hs:accN (gB l) (i + 1)=accN (gB l) i + (if i % 2=0 then gB l i * 256 else gB l i):=rfl
    obtain ⟨x,hxe⟩:∃ x,gB l i=x:=⟨_,rfl⟩
    have hat:=by_at hc
    rw [hxe] at hx hs hat
    have hsh:IntKind.i64.wrap (x * 2 ^ (min (8:Int).toNat IntKind.i64.bits))=x * 256:=by
      rw [show (2:Int) ^ (min (8:Int).toNat IntKind.i64.bits)=256 from by decide];exact IntWalk.i64_in _ (by omega)
    refine Wq (qW 17 18 rfl rfl rfl (qK rfl rfl rfl (Nl (Wq (Wt rfl ‹_› (Wk (Wq (Wb (Wq (qW 22 27 rfl rfl rfl (qM rfl rfl (qJ rfl rfl rfl rfl rfl ty24 ty5 (by first|omega|decide|assumption|(simp;done)|(simp;omega)) (Od rfl rfl (Li rfl rfl hat ty5 rfl) (qA rfl rfl (qA rfl rfl (Nl ?_))))))))))))))))
    by_cases hev:i % 2=0
    · have g2:((i:Int) % 2 == 0)=true:=by simp;omega
      rw [if_pos hev] at hs
      refine Wq (qW 31 34 rfl rfl rfl (qM rfl rfl (Od rfl rfl (LO.rem_in rfl rfl rfl (by first|omega) (by first|omega|decide|assumption|(simp;done)|(simp;omega))) (qE rfl rfl rfl (Nl (Wt rfl ‹_› (qW 38 44 rfl rfl rfl (qM rfl rfl (qM rfl rfl (Od rfl rfl (Ci rfl rfl ty5 ty3 (by (first|exact IntWalk.i64_in _ (by omega)|assumption))) (Od rfl rfl (LO.shl rfl rfl rfl (by first|omega|decide|assumption|(simp;done)|(simp;omega))) ?_)))))))))))
      rw [hsh]
      refine qZ rfl rfl rfl (by (first|exact IntWalk.i64_in _ (by omega)|assumption)) (qA rfl rfl (Nl ?_))
      rw [← hs]
      refine qW 57 59 rfl rfl rfl (qZ rfl rfl rfl (by (first|exact IntWalk.i64_in _ (by omega)|assumption)) (qM rfl rfl (Nl (WL.renameL [] 0 (by decide) ?_ ?_ (ihA (i + 1) (show l.length - (i + 1) < l.length - i from by omega) (show (i + 1)≤l.length from by omega))))))
      · (repeat' (first|exact LookR.nil|refine LookR.cons ?_ ?_))<;>first|exact .inl ⟨rfl,rfl⟩|exact .inr ⟨rfl,fun _ h=>by cases h⟩|exact .inl ⟨rfl,by first|rfl|assumption|exact (bytesC_pure _)⟩
      · (repeat' (first|exact all_mt|refine all_up ?_ ?_))<;>first|exact ⟨rfl,_,rfl,.inr ⟨rfl,rfl⟩⟩|exact ⟨rfl,_,rfl,.inl rfl⟩|exact ⟨rfl,_,rfl,.inr ⟨rfl,by first|rfl|assumption|exact (bytesC_pure _)⟩⟩
    · have g2:((i:Int) % 2 == 0)=false:=by simp;omega
      rw [if_neg hev] at hs
      refine Wq (qW 31 34 rfl rfl rfl (qM rfl rfl (Od rfl rfl (LO.rem_in rfl rfl rfl (by first|omega) (by first|omega|decide|assumption|(simp;done)|(simp;omega))) (qE rfl rfl rfl (Nl (Wf rfl ‹_› (qW 48 53 rfl rfl rfl (qM rfl rfl (qM rfl rfl (Od rfl rfl (Ci rfl rfl ty5 ty3 (by (first|exact IntWalk.i64_in _ (by omega)|assumption))) (qZ rfl rfl rfl (by (first|exact IntWalk.i64_in _ (by omega)|assumption)) (qA rfl rfl (Nl ?_)))))))))))))
      rw [← hs]
      refine qW 57 59 rfl rfl rfl (qZ rfl rfl rfl (by (first|exact IntWalk.i64_in _ (by omega)|assumption)) (qM rfl rfl (Nl (WL.renameL [] 0 (by decide) ?_ ?_ (ihA (i + 1) (show l.length - (i + 1) < l.length - i from by omega) (show (i + 1)≤l.length from by omega))))))
      · (repeat' (first|exact LookR.nil|refine LookR.cons ?_ ?_))<;>first|exact .inl ⟨rfl,rfl⟩|exact .inr ⟨rfl,fun _ h=>by cases h⟩|exact .inl ⟨rfl,by first|rfl|assumption|exact (bytesC_pure _)⟩
      · (repeat' (first|exact all_mt|refine all_up ?_ ?_))<;>first|exact ⟨rfl,_,rfl,.inr ⟨rfl,rfl⟩⟩|exact ⟨rfl,_,rfl,.inl rfl⟩|exact ⟨rfl,_,rfl,.inr ⟨rfl,by first|rfl|assumption|exact (bytesC_pure _)⟩⟩
  · have g1:decide ((i:Int) < (l.length:Int))=false:=decide_eq_false (by omega)
    refine Wq (qW 17 18 rfl rfl rfl (qK rfl rfl rfl (Nl (Wq (Wf rfl ‹_› (Wx ?_))))))
    obtain rfl:i=l.length:=by omega
    clear ihA
    refine Wq (Wb (W.loop_keep (α:=Int) (fun x=>x.toNat) 0 (fun x=>[(3,.base (.int .i64 x))]) (fun x=>mt) (fun x=>(0≤x∧x≤65280000000)∧foldS x=foldS (accL l)) (accN (gB l) l.length) [] .nil (show (0≤(accN (gB l) l.length)∧(accN (gB l) l.length)≤65280000000)∧foldS (accN (gB l) l.length)=foldS (accL l) from ⟨by omega,rfl⟩) (by decide) ?_ ?_ ?_))
    · (repeat' (first|exact LookR.nil|refine LookR.cons ?_ ?_))<;>first|exact .inl ⟨rfl,rfl⟩|exact .inr ⟨rfl,fun _ h=>by cases h⟩|exact .inl ⟨rfl,by first|rfl|assumption|exact (bytesC_pure _)⟩
    · (repeat' (first|exact all_mt|refine all_up ?_ ?_))<;>first|exact ⟨rfl,_,rfl,.inr ⟨rfl,rfl⟩⟩|exact ⟨rfl,_,rfl,.inl rfl⟩|exact ⟨rfl,_,rfl,.inr ⟨rfl,by first|rfl|assumption|exact (bytesC_pure _)⟩⟩
    rintro n hIB ihB
    try (dsimp only at hIB)
    try dsimp only [baseT,List.cons_append,List.nil_append]
    obtain ⟨hn,hf⟩:=hIB
    by_cases hbig:65535 < n
    · have g3:decide (n > 65535)=true:=decide_eq_true hbig
      have h1:n.fdiv (2 ^ (min (16:Int).toNat IntKind.i64.bits))=n / 65536:=by
        rw [show (2:Int) ^ (min (16:Int).toNat IntKind.i64.bits)=65536 from by decide];exact Int.fdiv_eq_ediv_of_nonneg _ (by decide)
      have h2:bitV .and .i64 n 65535=n % 65536:=i64_and hn.1 (by omega)
      refine Wq (Wq (qW 63 65 rfl rfl rfl (qM rfl rfl (Od rfl rfl (Gt0 rfl rfl rfl) (Nl (Wt rfl ‹_› (Wk (Wb (qW 69 75 rfl rfl rfl (qM rfl rfl (Od rfl rfl (LO.shr rfl rfl rfl (by first|omega|decide|assumption|(simp;done)|(simp;omega))) (qM rfl rfl (Od rfl rfl (LO.and rfl rfl rfl) ?_)))))))))))))
      rw [h1,h2]
      refine qZ rfl rfl rfl (by (first|exact IntWalk.i64_in _ (by omega)|assumption)) (qA rfl rfl (Nl (WL.renameL [] 0 (by decide) ?_ ?_ (ihB (n / 65536 + n % 65536) (show (n / 65536 + n % 65536).toNat < n.toNat from by omega) (show (0≤(n / 65536 + n % 65536)∧(n / 65536 + n % 65536)≤65280000000)∧foldS (n / 65536 + n % 65536)=foldS (accL l) from ⟨by omega,by rw [foldS_step hbig];exact hf⟩)))))
      · (repeat' (first|exact LookR.nil|refine LookR.cons ?_ ?_))<;>first|exact .inl ⟨rfl,rfl⟩|exact .inr ⟨rfl,fun _ h=>by cases h⟩|exact .inl ⟨rfl,by first|rfl|assumption|exact (bytesC_pure _)⟩
      · (repeat' (first|exact all_mt|refine all_up ?_ ?_))<;>first|exact ⟨rfl,_,rfl,.inr ⟨rfl,rfl⟩⟩|exact ⟨rfl,_,rfl,.inl rfl⟩|exact ⟨rfl,_,rfl,.inr ⟨rfl,by first|rfl|assumption|exact (bytesC_pure _)⟩⟩
    · have g3:decide (n > 65535)=false:=decide_eq_false hbig
      refine Wq (Wq (qW 63 65 rfl rfl rfl (qM rfl rfl (Od rfl rfl (Gt0 rfl rfl rfl) (Nl (Wf rfl ‹_› (Wx (Wq (qW 79 83 rfl rfl rfl (qM rfl rfl (Od rfl rfl (LO.sub_in rfl rfl rfl (by (first|exact IntWalk.i64_in _ (by omega)|assumption))) (Od rfl rfl (Ci rfl rfl ty3 ty127 (by (first|exact IntWalk.u16_in _ (by omega)|assumption))) (qA rfl rfl (Nl (Wz ⟨.inl rfl,_,mt,Rc (Rt rfl) (Rn),all_mt,?_⟩)))))))))))))))
      refine ⟨?_,rfl⟩
      rw [foldS_small hn.1 (by omega)] at hf
      show AV.base (.int .u16 (65535 - n))=_
      rw [hf];rfl
theorem sumX_any (l:List Int) (hB:IsB l) (hl:l.length≤1000000):AFn Tryz.prog 67 0 [.isl (bytesC l) l.length] mt (.base (.int .u16 (sumL l))) mt:=by
  refine AFn.eq Tryz.func67 rfl rfl (Nat.le_of_ble_eq_true rfl) (Wq (qW 0 1 rfl rfl rfl (qA rfl rfl (Nl (Wq (qW 5 6 rfl rfl rfl (qA rfl rfl (Nl (Wq (Wq (qW 10 13 rfl rfl rfl (qM rfl rfl (qH rfl rfl rfl ty24 (qM rfl rfl (Nl (Wb (W.loop_keep (α:=Nat) (fun x=>l.length - x) 0 (fun x=>[(3,.base (.int .i64 (accN (gB l) x))),(8,.base (.int .i64 (x:Int)))]) (fun x=>mt) (fun x=>x≤l.length) 0 [] (.cons (t:=6) rfl (by first|exact .inl rfl|exact .inr ⟨rfl,fun _ h=>by cases h⟩|(exact .inl (by assumption))|exact .inl (bytesC_pure _)) (.cons (t:=7) rfl (by first|exact .inl rfl|exact .inr ⟨rfl,fun _ h=>by cases h⟩|(exact .inl (by assumption))|exact .inl (bytesC_pure _)) .nil)) (show 0≤l.length from Nat.zero_le _) (by decide) ?_ ?_ ?_)))))))))))))))))
  · (repeat' (first|exact LookR.nil|refine LookR.cons ?_ ?_))<;>first|exact .inl ⟨rfl,rfl⟩|exact .inr ⟨rfl,fun _ h=>by cases h⟩|exact .inl ⟨rfl,by first|rfl|assumption|exact (bytesC_pure _)⟩
  · (repeat' (first|exact all_mt|refine all_up ?_ ?_))<;>first|exact ⟨rfl,_,rfl,.inr ⟨rfl,rfl⟩⟩|exact ⟨rfl,_,rfl,.inl rfl⟩|exact ⟨rfl,_,rfl,.inr ⟨rfl,by first|rfl|assumption|exact (bytesC_pure _)⟩⟩
  rintro i hIA ihA
  try (dsimp only at hIA)
  try dsimp only [baseT,List.cons_append,List.nil_append]
  have hbd:=accN_bd (gB l) i (fun j=>hB.at j)
  by_cases hc:i < l.length
  · have g1:decide ((i:Int) < (l.length:Int))=true:=decide_eq_true (by omega)
    have hx:=hB.at i
    have hs:accN (gB l) (i + 1)=accN (gB l) i + (if i % 2=0 then gB l i * 256 else gB l i):=rfl
    obtain ⟨x,hxe⟩:∃ x,gB l i=x:=⟨_,rfl⟩
    have hat:=by_at hc
    rw [hxe] at hx hs hat
    have hsh:IntKind.i64.wrap (x * 2 ^ (min (8:Int).toNat IntKind.i64.bits))=x * 256:=by
      rw [show (2:Int) ^ (min (8:Int).toNat IntKind.i64.bits)=256 from by decide];exact IntWalk.i64_in _ (by omega)
    refine Wq (qW 17 18 rfl rfl rfl (qK rfl rfl rfl (Nl (Wq (Wt rfl ‹_› (Wk (Wq (Wb (Wq (qW 22 27 rfl rfl rfl (qM rfl rfl (qJ rfl rfl rfl rfl rfl ty24 ty5 (by first|omega|decide|assumption|(simp;done)|(simp;omega)) (Od rfl rfl (Li rfl rfl hat ty5 rfl) (qA rfl rfl (qA rfl rfl (Nl ?_))))))))))))))))
    by_cases hev:i % 2=0
    · have g2:((i:Int) % 2 == 0)=true:=by simp;omega
      rw [if_pos hev] at hs
      refine Wq (qW 31 34 rfl rfl rfl (qM rfl rfl (Od rfl rfl (LO.rem_in rfl rfl rfl (by first|omega) (by first|omega|decide|assumption|(simp;done)|(simp;omega))) (qE rfl rfl rfl (Nl (Wt rfl ‹_› (qW 38 44 rfl rfl rfl (qM rfl rfl (qM rfl rfl (Od rfl rfl (Ci rfl rfl ty5 ty3 (by (first|exact IntWalk.i64_in _ (by omega)|assumption))) (Od rfl rfl (LO.shl rfl rfl rfl (by first|omega|decide|assumption|(simp;done)|(simp;omega))) ?_)))))))))))
      rw [hsh]
      refine qZ rfl rfl rfl (by (first|exact IntWalk.i64_in _ (by omega)|assumption)) (qA rfl rfl (Nl ?_))
      rw [← hs]
      refine qW 57 59 rfl rfl rfl (qZ rfl rfl rfl (by (first|exact IntWalk.i64_in _ (by omega)|assumption)) (qM rfl rfl (Nl (WL.renameL [] 0 (by decide) ?_ ?_ (ihA (i + 1) (show l.length - (i + 1) < l.length - i from by omega) (show (i + 1)≤l.length from by omega))))))
      · (repeat' (first|exact LookR.nil|refine LookR.cons ?_ ?_))<;>first|exact .inl ⟨rfl,rfl⟩|exact .inr ⟨rfl,fun _ h=>by cases h⟩|exact .inl ⟨rfl,by first|rfl|assumption|exact (bytesC_pure _)⟩
      · (repeat' (first|exact all_mt|refine all_up ?_ ?_))<;>first|exact ⟨rfl,_,rfl,.inr ⟨rfl,rfl⟩⟩|exact ⟨rfl,_,rfl,.inl rfl⟩|exact ⟨rfl,_,rfl,.inr ⟨rfl,by first|rfl|assumption|exact (bytesC_pure _)⟩⟩
    · have g2:((i:Int) % 2 == 0)=false:=by simp;omega
      rw [if_neg hev] at hs
      refine Wq (qW 31 34 rfl rfl rfl (qM rfl rfl (Od rfl rfl (LO.rem_in rfl rfl rfl (by first|omega) (by first|omega|decide|assumption|(simp;done)|(simp;omega))) (qE rfl rfl rfl (Nl (Wf rfl ‹_› (qW 48 53 rfl rfl rfl (qM rfl rfl (qM rfl rfl (Od rfl rfl (Ci rfl rfl ty5 ty3 (by (first|exact IntWalk.i64_in _ (by omega)|assumption))) (qZ rfl rfl rfl (by (first|exact IntWalk.i64_in _ (by omega)|assumption)) (qA rfl rfl (Nl ?_)))))))))))))
      rw [← hs]
      refine qW 57 59 rfl rfl rfl (qZ rfl rfl rfl (by (first|exact IntWalk.i64_in _ (by omega)|assumption)) (qM rfl rfl (Nl (WL.renameL [] 0 (by decide) ?_ ?_ (ihA (i + 1) (show l.length - (i + 1) < l.length - i from by omega) (show (i + 1)≤l.length from by omega))))))
      · (repeat' (first|exact LookR.nil|refine LookR.cons ?_ ?_))<;>first|exact .inl ⟨rfl,rfl⟩|exact .inr ⟨rfl,fun _ h=>by cases h⟩|exact .inl ⟨rfl,by first|rfl|assumption|exact (bytesC_pure _)⟩
      · (repeat' (first|exact all_mt|refine all_up ?_ ?_))<;>first|exact ⟨rfl,_,rfl,.inr ⟨rfl,rfl⟩⟩|exact ⟨rfl,_,rfl,.inl rfl⟩|exact ⟨rfl,_,rfl,.inr ⟨rfl,by first|rfl|assumption|exact (bytesC_pure _)⟩⟩
  · have g1:decide ((i:Int) < (l.length:Int))=false:=decide_eq_false (by omega)
    refine Wq (qW 17 18 rfl rfl rfl (qK rfl rfl rfl (Nl (Wq (Wf rfl ‹_› (Wx ?_))))))
    obtain rfl:i=l.length:=by omega
    clear ihA
    refine Wq (Wb (W.loop_keep (α:=Int) (fun x=>x.toNat) 0 (fun x=>[(3,.base (.int .i64 x))]) (fun x=>mt) (fun x=>(0≤x∧x≤65280000000)∧foldS x=foldS (accL l)) (accN (gB l) l.length) [] .nil (show (0≤(accN (gB l) l.length)∧(accN (gB l) l.length)≤65280000000)∧foldS (accN (gB l) l.length)=foldS (accL l) from ⟨by omega,rfl⟩) (by decide) ?_ ?_ ?_))
    · (repeat' (first|exact LookR.nil|refine LookR.cons ?_ ?_))<;>first|exact .inl ⟨rfl,rfl⟩|exact .inr ⟨rfl,fun _ h=>by cases h⟩|exact .inl ⟨rfl,by first|rfl|assumption|exact (bytesC_pure _)⟩
    · (repeat' (first|exact all_mt|refine all_up ?_ ?_))<;>first|exact ⟨rfl,_,rfl,.inr ⟨rfl,rfl⟩⟩|exact ⟨rfl,_,rfl,.inl rfl⟩|exact ⟨rfl,_,rfl,.inr ⟨rfl,by first|rfl|assumption|exact (bytesC_pure _)⟩⟩
    rintro n hIB ihB
    try (dsimp only at hIB)
    try dsimp only [baseT,List.cons_append,List.nil_append]
    obtain ⟨hn,hf⟩:=hIB
    by_cases hbig:65535 < n
    · have g3:decide (n > 65535)=true:=decide_eq_true hbig
      have h1:n.fdiv (2 ^ (min (16:Int).toNat IntKind.i64.bits))=n / 65536:=by
        rw [show (2:Int) ^ (min (16:Int).toNat IntKind.i64.bits)=65536 from by decide];exact Int.fdiv_eq_ediv_of_nonneg _ (by decide)
      have h2:bitV .and .i64 n 65535=n % 65536:=i64_and hn.1 (by omega)
      refine Wq (Wq (qW 63 65 rfl rfl rfl (qM rfl rfl (Od rfl rfl (Gt0 rfl rfl rfl) (Nl (Wt rfl ‹_› (Wk (Wb (qW 69 75 rfl rfl rfl (qM rfl rfl (Od rfl rfl (LO.shr rfl rfl rfl (by first|omega|decide|assumption|(simp;done)|(simp;omega))) (qM rfl rfl (Od rfl rfl (LO.and rfl rfl rfl) ?_)))))))))))))
      rw [h1,h2]
      refine qZ rfl rfl rfl (by (first|exact IntWalk.i64_in _ (by omega)|assumption)) (qA rfl rfl (Nl (WL.renameL [] 0 (by decide) ?_ ?_ (ihB (n / 65536 + n % 65536) (show (n / 65536 + n % 65536).toNat < n.toNat from by omega) (show (0≤(n / 65536 + n % 65536)∧(n / 65536 + n % 65536)≤65280000000)∧foldS (n / 65536 + n % 65536)=foldS (accL l) from ⟨by omega,by rw [foldS_step hbig];exact hf⟩)))))
      · (repeat' (first|exact LookR.nil|refine LookR.cons ?_ ?_))<;>first|exact .inl ⟨rfl,rfl⟩|exact .inr ⟨rfl,fun _ h=>by cases h⟩|exact .inl ⟨rfl,by first|rfl|assumption|exact (bytesC_pure _)⟩
      · (repeat' (first|exact all_mt|refine all_up ?_ ?_))<;>first|exact ⟨rfl,_,rfl,.inr ⟨rfl,rfl⟩⟩|exact ⟨rfl,_,rfl,.inl rfl⟩|exact ⟨rfl,_,rfl,.inr ⟨rfl,by first|rfl|assumption|exact (bytesC_pure _)⟩⟩
    · have g3:decide (n > 65535)=false:=decide_eq_false hbig
      refine Wq (Wq (qW 63 65 rfl rfl rfl (qM rfl rfl (Od rfl rfl (Gt0 rfl rfl rfl) (Nl (Wf rfl ‹_› (Wx (Wq (qW 79 83 rfl rfl rfl (qM rfl rfl (Od rfl rfl (LO.sub_in rfl rfl rfl (by (first|exact IntWalk.i64_in _ (by omega)|assumption))) (Od rfl rfl (Ci rfl rfl ty3 ty127 (by (first|exact IntWalk.u16_in _ (by omega)|assumption))) (qA rfl rfl (Nl (Wz ⟨.inl rfl,_,mt,Rc (Rt rfl) (Rn),all_mt,?_⟩)))))))))))))))
      refine ⟨?_,rfl⟩
      rw [foldS_small hn.1 (by omega)] at hf
      show AV.base (.int .u16 (65535 - n))=_
      rw [hf];rfl
theorem from_any (l:List Int) (hB:IsB l) (hn:l.length=4∨l.length=16):AFn Tryz.prog 53 0 [.isl (bytesC l) l.length] mt (.tup [.agg (adC ⟨(l.length:Int) == 16,(fb l).1,(fb l).2⟩),.base (.int .i64 0)]) mt:=by
  refine AFn.eq Tryz.func53 rfl rfl (Nat.le_of_ble_eq_true rfl) (Wq (qW 0 2 rfl rfl rfl (qB rfl ty42 (qA rfl rfl (Nl ?_)))))
  have key:((l.length:Int) != 4)=false∨(((l.length:Int) != 4)=true∧((l.length:Int) != 16)=false):=by
    rcases hn with h|h
    · exact .inl (by rw [h];rfl)
    · exact .inr ⟨by rw [h];rfl,by rw [h];rfl⟩
  rcases key with g1|⟨g1,g2⟩
  case' inl =>
    refine Wq (Wq (qW 6 14 rfl rfl rfl (qM rfl rfl (qH rfl rfl rfl ty24 (qN rfl rfl rfl (qM rfl rfl (Sd rfl rfl rfl ‹_› rfl (Sd rfl rfl rfl ‹_› rfl (Sd rfl rfl rfl ‹_› rfl (qP rfl rfl ‹_› rfl (Nl ?_)))))))))))
  case' inr =>
    refine Wq (Wq (qW 6 14 rfl rfl rfl (qM rfl rfl (qH rfl rfl rfl ty24 (qN rfl rfl rfl (qM rfl rfl (Gd rfl rfl rfl ‹_› rfl (Mv rfl rfl) (Gd rfl rfl rfl ‹_› rfl (Ln rfl rfl rfl ty24) (Gd rfl rfl rfl ‹_› rfl (Ne0 rfl rfl rfl) (qT rfl rfl ‹_› rfl (Nl ?_)))))))))))
  all_goals
    refine Wf rfl (by first|rfl|assumption) (Wk ?_)
    repeat (refine W.seq ?_)
    refine qW 25 31 rfl rfl rfl (qM rfl rfl (qH rfl rfl rfl ty24 (qE rfl rfl rfl (Od rfl rfl (Bs rfl ty42 (.cons rfl rfl rfl rfl (Sl rfl) .nil)) (qB rfl ty42 (qS rfl rfl rfl rfl rfl ty42 rfl rfl (Sl rfl) (Nl ?_)))))))
    repeat (refine W.seq ?_)
    refine qW 35 38 rfl rfl rfl (qM rfl rfl (qH rfl rfl rfl ty24 (qM rfl rfl (Nl (Wb (W.loop_keep (α:=Nat) (fun x=>l.length - x) 2 (fun x=>[(2,.own 0 0),(4,.own 1 0),(22,.base (.int .i64 (x:Int)))]) (fun x=>up (up mt 0 (some (adC zAd))) 1 (some (adC ⟨(l.length:Int) == 16,(fb (l.take x)).1,(fb (l.take x)).2⟩))) (fun x=>x≤l.length) 0 [(0,0),(1,29)] (.cons (t:=20) rfl (by first|exact .inl rfl|exact .inr ⟨rfl,fun _ h=>by cases h⟩|(exact .inl (by assumption))|exact .inl (bytesC_pure _)) (.cons (t:=21) rfl (by first|exact .inl rfl|exact .inr ⟨rfl,fun _ h=>by cases h⟩|(exact .inl (by assumption))|exact .inl (bytesC_pure _)) .nil)) (show 0≤l.length from Nat.zero_le _) (by decide) ?_ ?_ ?_))))))
    · (repeat' (first|exact LookR.nil|refine LookR.cons ?_ ?_))<;>first|exact .inl ⟨rfl,rfl⟩|exact .inr ⟨rfl,fun _ h=>by cases h⟩|exact .inl ⟨rfl,by first|rfl|assumption|exact (bytesC_pure _)⟩
    · (repeat' (first|exact all_mt|refine all_up ?_ ?_))<;>first|exact ⟨rfl,_,rfl,.inr ⟨rfl,rfl⟩⟩|exact ⟨rfl,_,rfl,.inl rfl⟩|exact ⟨rfl,_,rfl,.inr ⟨rfl,by first|rfl|assumption|exact (bytesC_pure _)⟩⟩
    rintro i hIA ihA
    try (dsimp only at hIA)
    try dsimp only [baseT,List.cons_append,List.nil_append]
    by_cases hc:i < l.length
    · have g5:decide ((i:Int) < (l.length:Int))=true:=decide_eq_true (by omega)
      have hs:=fb_snoc l i hc
      have hx:=hB.at i
      obtain ⟨x,hxe⟩:∃ x,gB l i=x:=⟨_,rfl⟩
      have hat:=by_at hc
      rw [hxe] at hs hx hat
      obtain ⟨p,hp⟩:∃ p,fb (l.take i)=p:=⟨_,rfl⟩
      obtain ⟨q1,q2⟩:=fb_bd (l.take i)
      rw [hp] at hs q1 q2 ⊢
      have e1:bitV .or .u64 (IntKind.u64.wrap (p.1 * 2 ^ (min (8:Int).toNat IntKind.u64.bits))) (p.2.fdiv (2 ^ (min (56:Int).toNat IntKind.u64.bits)))=(fb (l.take (i + 1))).1:=by rw [hs];exact fb_one p x
      have e2:bitV .or .u64 (IntKind.u64.wrap (p.2 * 2 ^ (min (8:Int).toNat IntKind.u64.bits))) x=(fb (l.take (i + 1))).2:=by rw [hs];rfl
      unfold adC
      repeat (refine W.seq ?_)
      refine qW 42 43 rfl rfl rfl (qK rfl rfl rfl (Nl ?_))
      repeat (refine W.seq ?_)
      refine Wt rfl ‹_› (Wk ?_)
      repeat (refine W.seq ?_)
      refine Wb ?_
      repeat (refine W.seq ?_)
      refine qW 47 50 rfl rfl rfl (qJ rfl rfl rfl rfl rfl ty24 ty5 (by first|omega|decide|assumption|(simp;done)|(simp;omega)) (Od rfl rfl (Li rfl rfl hat ty5 rfl) (qA rfl rfl (Nl ?_))))
      repeat (refine W.seq ?_)
      refine qW 54 63 rfl rfl rfl (qF rfl rfl ty42 rfl rfl (qL rfl rfl rfl rfl ty40 rfl (Od rfl rfl (LO.shl rfl rfl rfl (by first|omega|decide|assumption|(simp;done)|(simp;omega))) (qF rfl rfl ty42 rfl rfl (qL rfl rfl rfl rfl ty40 rfl (Od rfl rfl (LO.shr rfl rfl rfl (by first|omega|decide|assumption|(simp;done)|(simp;omega))) (Od rfl rfl (LO.or rfl rfl rfl) (qF rfl rfl ty42 rfl rfl (qS rfl rfl rfl rfl rfl ty40 rfl rfl (Sl rfl) (Nl (qW 67 75 rfl rfl rfl (qF rfl rfl ty42 rfl rfl (qL rfl rfl rfl rfl ty40 rfl (Od rfl rfl (LO.shl rfl rfl rfl (by first|omega|decide|assumption|(simp;done)|(simp;omega))) (qM rfl rfl (Od rfl rfl (Ci rfl rfl ty5 ty40 (by (first|exact IntWalk.u64_in _ (by omega)|assumption))) (Od rfl rfl (LO.or rfl rfl rfl) (qF rfl rfl ty42 rfl rfl (qS rfl rfl rfl rfl rfl ty40 rfl rfl (Sl rfl) (Nl ?_))))))))))))))))))))
      rw [e1,e2]
      refine qW 79 81 rfl rfl rfl (qZ rfl rfl rfl (by (first|exact IntWalk.i64_in _ (by omega)|assumption)) (qM rfl rfl (Nl (WL.renameL [(0,0),(1,1)] 2 (by decide) ?_ ?_ (ihA (i + 1) (show l.length - (i + 1) < l.length - i from by omega) (show (i + 1)≤l.length from by omega))))))
      · (repeat' (first|exact LookR.nil|refine LookR.cons ?_ ?_))<;>first|exact .inl ⟨rfl,rfl⟩|exact .inr ⟨rfl,fun _ h=>by cases h⟩|exact .inl ⟨rfl,by first|rfl|assumption|exact (bytesC_pure _)⟩
      · (repeat' (first|exact all_mt|refine all_up ?_ ?_))<;>first|exact ⟨rfl,_,rfl,.inr ⟨rfl,rfl⟩⟩|exact ⟨rfl,_,rfl,.inl rfl⟩|exact ⟨rfl,_,rfl,.inr ⟨rfl,by first|rfl|assumption|exact (bytesC_pure _)⟩⟩
    · have g5:decide ((i:Int) < (l.length:Int))=false:=decide_eq_false (by omega)
      repeat (refine W.seq ?_)
      refine qW 42 43 rfl rfl rfl (qK rfl rfl rfl (Nl ?_))
      repeat (refine W.seq ?_)
      refine Wf rfl ‹_› (Wx ?_)
      obtain rfl:i=l.length:=by omega
      rw [List.take_length]
      unfold adC
      repeat (refine W.seq ?_)
      refine qW 85 88 rfl rfl rfl (qG rfl rfl rfl ty42 rfl (Tl rfl) (qS rfl rfl rfl rfl rfl ty42 rfl rfl (Sl rfl) (qA rfl rfl (Nl ?_))))
      refine W.ret ⟨.inl rfl,_,mt,(RVs.cons (RV.cellA rfl rfl ty42 rfl (Tk.lit rfl)) (RVs.cons (RV.tmp rfl) RVs.nil)),(by (repeat' (first|exact all_mt|refine all_up ?_ ?_))<;>rfl),?_⟩
      exact ⟨rfl,rfl⟩
theorem fromX_any (l:List Int) (hB:IsB l) (hn:l.length=4∨l.length=16):AFn Tryz.prog 65 0 [.isl (bytesC l) l.length] mt (.tup [.agg (adC ⟨(l.length:Int) == 16,(fb l).1,(fb l).2⟩),.base (.int .i64 0)]) mt:=by
  refine AFn.eq Tryz.func65 rfl rfl (Nat.le_of_ble_eq_true rfl) (Wq (qW 0 2 rfl rfl rfl (qB rfl ty42 (qA rfl rfl (Nl ?_)))))
  have key:((l.length:Int) != 4)=false∨(((l.length:Int) != 4)=true∧((l.length:Int) != 16)=false):=by
    rcases hn with h|h
    · exact .inl (by rw [h];rfl)
    · exact .inr ⟨by rw [h];rfl,by rw [h];rfl⟩
  rcases key with g1|⟨g1,g2⟩
  case' inl =>
    refine Wq (Wq (qW 6 14 rfl rfl rfl (qM rfl rfl (qH rfl rfl rfl ty24 (qN rfl rfl rfl (qM rfl rfl (Sd rfl rfl rfl ‹_› rfl (Sd rfl rfl rfl ‹_› rfl (Sd rfl rfl rfl ‹_› rfl (qP rfl rfl ‹_› rfl (Nl ?_)))))))))))
  case' inr =>
    refine Wq (Wq (qW 6 14 rfl rfl rfl (qM rfl rfl (qH rfl rfl rfl ty24 (qN rfl rfl rfl (qM rfl rfl (Gd rfl rfl rfl ‹_› rfl (Mv rfl rfl) (Gd rfl rfl rfl ‹_› rfl (Ln rfl rfl rfl ty24) (Gd rfl rfl rfl ‹_› rfl (Ne0 rfl rfl rfl) (qT rfl rfl ‹_› rfl (Nl ?_)))))))))))
  all_goals
    refine Wf rfl (by first|rfl|assumption) (Wk ?_)
    repeat (refine W.seq ?_)
    refine qW 25 31 rfl rfl rfl (qM rfl rfl (qH rfl rfl rfl ty24 (qE rfl rfl rfl (Od rfl rfl (Bs rfl ty42 (.cons rfl rfl rfl rfl (Sl rfl) .nil)) (qB rfl ty42 (qS rfl rfl rfl rfl rfl ty42 rfl rfl (Sl rfl) (Nl ?_)))))))
    repeat (refine W.seq ?_)
    refine qW 35 38 rfl rfl rfl (qM rfl rfl (qH rfl rfl rfl ty24 (qM rfl rfl (Nl (Wb (W.loop_keep (α:=Nat) (fun x=>l.length - x) 2 (fun x=>[(2,.own 0 0),(4,.own 1 0),(22,.base (.int .i64 (x:Int)))]) (fun x=>up (up mt 0 (some (adC zAd))) 1 (some (adC ⟨(l.length:Int) == 16,(fb (l.take x)).1,(fb (l.take x)).2⟩))) (fun x=>x≤l.length) 0 [(0,0),(1,29)] (.cons (t:=20) rfl (by first|exact .inl rfl|exact .inr ⟨rfl,fun _ h=>by cases h⟩|(exact .inl (by assumption))|exact .inl (bytesC_pure _)) (.cons (t:=21) rfl (by first|exact .inl rfl|exact .inr ⟨rfl,fun _ h=>by cases h⟩|(exact .inl (by assumption))|exact .inl (bytesC_pure _)) .nil)) (show 0≤l.length from Nat.zero_le _) (by decide) ?_ ?_ ?_))))))
    · (repeat' (first|exact LookR.nil|refine LookR.cons ?_ ?_))<;>first|exact .inl ⟨rfl,rfl⟩|exact .inr ⟨rfl,fun _ h=>by cases h⟩|exact .inl ⟨rfl,by first|rfl|assumption|exact (bytesC_pure _)⟩
    · (repeat' (first|exact all_mt|refine all_up ?_ ?_))<;>first|exact ⟨rfl,_,rfl,.inr ⟨rfl,rfl⟩⟩|exact ⟨rfl,_,rfl,.inl rfl⟩|exact ⟨rfl,_,rfl,.inr ⟨rfl,by first|rfl|assumption|exact (bytesC_pure _)⟩⟩
    rintro i hIA ihA
    try (dsimp only at hIA)
    try dsimp only [baseT,List.cons_append,List.nil_append]
    by_cases hc:i < l.length
    · have g5:decide ((i:Int) < (l.length:Int))=true:=decide_eq_true (by omega)
      have hs:=fb_snoc l i hc
      have hx:=hB.at i
      obtain ⟨x,hxe⟩:∃ x,gB l i=x:=⟨_,rfl⟩
      have hat:=by_at hc
      rw [hxe] at hs hx hat
      obtain ⟨p,hp⟩:∃ p,fb (l.take i)=p:=⟨_,rfl⟩
      obtain ⟨q1,q2⟩:=fb_bd (l.take i)
      rw [hp] at hs q1 q2 ⊢
      have e1:bitV .or .u64 (IntKind.u64.wrap (p.1 * 2 ^ (min (8:Int).toNat IntKind.u64.bits))) (p.2.fdiv (2 ^ (min (56:Int).toNat IntKind.u64.bits)))=(fb (l.take (i + 1))).1:=by rw [hs];exact fb_one p x
      have e2:bitV .or .u64 (IntKind.u64.wrap (p.2 * 2 ^ (min (8:Int).toNat IntKind.u64.bits))) x=(fb (l.take (i + 1))).2:=by rw [hs];rfl
      unfold adC
      repeat (refine W.seq ?_)
      refine qW 42 43 rfl rfl rfl (qK rfl rfl rfl (Nl ?_))
      repeat (refine W.seq ?_)
      refine Wt rfl ‹_› (Wk ?_)
      repeat (refine W.seq ?_)
      refine Wb ?_
      repeat (refine W.seq ?_)
      refine qW 47 50 rfl rfl rfl (qJ rfl rfl rfl rfl rfl ty24 ty5 (by first|omega|decide|assumption|(simp;done)|(simp;omega)) (Od rfl rfl (Li rfl rfl hat ty5 rfl) (qA rfl rfl (Nl ?_))))
      repeat (refine W.seq ?_)
      refine qW 54 63 rfl rfl rfl (qF rfl rfl ty42 rfl rfl (qL rfl rfl rfl rfl ty40 rfl (Od rfl rfl (LO.shl rfl rfl rfl (by first|omega|decide|assumption|(simp;done)|(simp;omega))) (qF rfl rfl ty42 rfl rfl (qL rfl rfl rfl rfl ty40 rfl (Od rfl rfl (LO.shr rfl rfl rfl (by first|omega|decide|assumption|(simp;done)|(simp;omega))) (Od rfl rfl (LO.or rfl rfl rfl) (qF rfl rfl ty42 rfl rfl (qS rfl rfl rfl rfl rfl ty40 rfl rfl (Sl rfl) (Nl (qW 67 75 rfl rfl rfl (qF rfl rfl ty42 rfl rfl (qL rfl rfl rfl rfl ty40 rfl (Od rfl rfl (LO.shl rfl rfl rfl (by first|omega|decide|assumption|(simp;done)|(simp;omega))) (qM rfl rfl (Od rfl rfl (Ci rfl rfl ty5 ty40 (by (first|exact IntWalk.u64_in _ (by omega)|assumption))) (Od rfl rfl (LO.or rfl rfl rfl) (qF rfl rfl ty42 rfl rfl (qS rfl rfl rfl rfl rfl ty40 rfl rfl (Sl rfl) (Nl ?_))))))))))))))))))))
      rw [e1,e2]
      refine qW 79 81 rfl rfl rfl (qZ rfl rfl rfl (by (first|exact IntWalk.i64_in _ (by omega)|assumption)) (qM rfl rfl (Nl (WL.renameL [(0,0),(1,1)] 2 (by decide) ?_ ?_ (ihA (i + 1) (show l.length - (i + 1) < l.length - i from by omega) (show (i + 1)≤l.length from by omega))))))
      · (repeat' (first|exact LookR.nil|refine LookR.cons ?_ ?_))<;>first|exact .inl ⟨rfl,rfl⟩|exact .inr ⟨rfl,fun _ h=>by cases h⟩|exact .inl ⟨rfl,by first|rfl|assumption|exact (bytesC_pure _)⟩
      · (repeat' (first|exact all_mt|refine all_up ?_ ?_))<;>first|exact ⟨rfl,_,rfl,.inr ⟨rfl,rfl⟩⟩|exact ⟨rfl,_,rfl,.inl rfl⟩|exact ⟨rfl,_,rfl,.inr ⟨rfl,by first|rfl|assumption|exact (bytesC_pure _)⟩⟩
    · have g5:decide ((i:Int) < (l.length:Int))=false:=decide_eq_false (by omega)
      repeat (refine W.seq ?_)
      refine qW 42 43 rfl rfl rfl (qK rfl rfl rfl (Nl ?_))
      repeat (refine W.seq ?_)
      refine Wf rfl ‹_› (Wx ?_)
      obtain rfl:i=l.length:=by omega
      rw [List.take_length]
      unfold adC
      repeat (refine W.seq ?_)
      refine qW 85 88 rfl rfl rfl (qG rfl rfl rfl ty42 rfl (Tl rfl) (qS rfl rfl rfl rfl rfl ty42 rfl rfl (Sl rfl) (qA rfl rfl (Nl ?_))))
      refine W.ret ⟨.inl rfl,_,mt,(RVs.cons (RV.cellA rfl rfl ty42 rfl (Tk.lit rfl)) (RVs.cons (RV.tmp rfl) RVs.nil)),(by (repeat' (first|exact all_mt|refine all_up ?_ ?_))<;>rfl),?_⟩
      exact ⟨rfl,rfl⟩
end Go.Proofs.YtcidmiacfjdepaaGreatDoor
