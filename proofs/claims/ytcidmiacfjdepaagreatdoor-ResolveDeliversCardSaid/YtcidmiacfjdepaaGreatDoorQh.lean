/-
  Numbers of two bytes, joining rows of bytes, stations. The check sum of data between two addresses: both texts.
-/
import Derived.Test.YtcidmiacfjdepaaGreatDoorQf
import Derived.Test.YtcidmiacfjdepaaGreatDoorMab
namespace Go.Proofs.YtcidmiacfjdepaaGreatDoor
open Go.RowKit
def hi8 (n:Int):Int:=IntKind.u8.wrap (n.fdiv (2 ^ (min (8:Int).toNat IntKind.i64.bits)))
def putL (n:Int):List Int:=[hi8 n,IntKind.u8.wrap n]
theorem u8_bd (n:Int):0≤IntKind.u8.wrap n∧IntKind.u8.wrap n≤255:=by rw [IntKind.wrap_u8'];omega
theorem putL_isB (n:Int):IsB (putL n):=fun x hx=>by
  simp only [putL,List.mem_cons,List.not_mem_nil,or_false] at hx
  rcases hx with rfl|rfl
  · exact u8_bd _
  · exact u8_bd _
theorem put_nil (n:Int):AFn Tryz.prog 103 0 [.nils,.base (.int .i64 n)] mt (.osl 0 0 2 1) (up mt 0 (some (bytesC (putL n)))):=by
  refine AFn.eq Tryz.func103 rfl rfl (Nat.le_of_ble_eq_true rfl) (Wq (qW 0 1 rfl rfl rfl (qA rfl rfl (Nl (Wq (qW 5 14 rfl rfl rfl (qM rfl rfl (qM rfl rfl (Od rfl rfl (LO.shr rfl rfl rfl (by first|omega|decide|assumption|(simp;done)|(simp;omega))) (Od rfl rfl (LO.conv rfl rfl ty3 ty5) (qM rfl rfl (Od rfl rfl (LO.conv rfl rfl ty3 ty5) (Od rfl rfl (LO.buildSlice rfl ty24 ty5 (by decide) (by decide) (.cons rfl rfl rfl rfl (Sl rfl) (.cons rfl rfl rfl rfl (Sl rfl) .nil))) (Od rfl rfl (Lan rfl rfl (Sso rfl rfl (Tl rfl)) ty24 ty24 ty5 (by decide) (by first|omega|decide|assumption|(simp;done)|(simp;omega)) (by first|omega|decide|assumption|(simp;done)|(simp;omega)) (by first|decide|omega)) (qA rfl rfl (Nl (W.rename [(0,12)] 1 (T':=up mt 4 (some (.osl 0 0 (2) 1))) (H':=up mt 0 (some (bytesC (putL n)))) (by decide) ?_ ?_ ?_)))))))))))))))))
  · (repeat' (first|exact all_mt|refine all_up ?_ ?_))<;>first|exact .inl ⟨rfl,rfl⟩|exact .inr ⟨rfl,fun _ h=>by cases h⟩|exact .inl ⟨rfl,by first|rfl|assumption ⟩
  · (repeat' (first|exact all_mt|refine all_up ?_ ?_))<;>first|exact ⟨rfl,_,rfl,.inr ⟨rfl,rfl⟩⟩|exact ⟨rfl,_,rfl,.inl rfl⟩|exact ⟨rfl,_,rfl,.inr ⟨rfl,by first|rfl|assumption ⟩⟩
  refine Wz ⟨.inl rfl,_,up mt 0 (some (bytesC (putL n))),Rc (Rt rfl) Rn,all_up rfl all_mt,?_⟩
  exact ⟨rfl,rfl⟩
theorem put_any (l:List Int) (n:Int) (hl:l.length≤1000000):AFn Tryz.prog 103 1 [.osl 0 0 l.length 1,.base (.int .i64 n)] (up mt 0 (some (bytesC l))) (.osl 1 0 (l.length + 2) 1) (up mt 1 (some (bytesC (l++putL n)))):=by
  refine AFn.eq Tryz.func103 rfl rfl (Nat.le_of_ble_eq_true rfl) (Wq (qW 1 2 rfl rfl rfl (qA rfl rfl (Nl (Wq (qW 6 15 rfl rfl rfl (qM rfl rfl (qM rfl rfl (Od rfl rfl (LO.shr rfl rfl rfl (by first|omega|decide|assumption|(simp;done)|(simp;omega))) (Od rfl rfl (LO.conv rfl rfl ty3 ty5) (qM rfl rfl (Od rfl rfl (LO.conv rfl rfl ty3 ty5) (Od rfl rfl (LO.buildSlice rfl ty24 ty5 (by decide) (by decide) (.cons rfl rfl rfl rfl (Sl rfl) (.cons rfl rfl rfl rfl (Sl rfl) .nil))) (Od rfl rfl (Lap rfl rfl (Sso rfl rfl (Tl rfl)) rfl (bytes_tk rfl) ty24 ty24 ty5 (by decide) (by first|omega|decide|assumption|(simp;done)|(simp;omega)) (by first|omega|decide|assumption|(simp;done)|(simp;omega)) (by first|decide|omega)) (qA rfl rfl (Nl ?_))))))))))))))))
  rw [show bytesC l++[AV.base (.int .u8 (IntKind.u8.wrap (n.fdiv (2 ^ (min (8:Int).toNat IntKind.i64.bits))))),AV.base (.int .u8 (IntKind.u8.wrap n))]=bytesC (l++putL n) from by rw [bytesC_app];rfl]
  refine W.rename [(0,0),(1,13)] 2 (T':=up mt 4 (some (.osl 1 0 (l.length + 2) 1))) (H':=up mt 1 (some (bytesC (l++putL n)))) (by decide) ?_ ?_ ?_
  · (repeat' (first|exact all_mt|refine all_up ?_ ?_))<;>first|exact .inl ⟨rfl,rfl⟩|exact .inr ⟨rfl,fun _ h=>by cases h⟩|exact .inl ⟨rfl,by first|rfl|assumption|exact (bytesC_pure _)⟩
  · (repeat' (first|exact all_mt|refine all_up ?_ ?_))<;>first|exact ⟨rfl,_,rfl,.inr ⟨rfl,rfl⟩⟩|exact ⟨rfl,_,rfl,.inl rfl⟩|exact ⟨rfl,_,rfl,.inr ⟨rfl,by first|rfl|assumption|exact (bytesC_pure _)⟩⟩
  refine Wz ⟨.inl rfl,_,up mt 1 (some (bytesC (l++putL n))),Rc (Rt rfl) Rn,all_up rfl all_mt,?_⟩
  exact ⟨rfl,rfl⟩
theorem i64_or {x y:Int} (hx:0≤x∧x≤255) (hy:0≤y∧y≤255):bitV .or .i64 (x * 256) y=x * 256 + y:=by
  obtain ⟨a,rfl⟩:=Int.eq_ofNat_of_zero_le hx.1
  obtain ⟨b,rfl⟩:=Int.eq_ofNat_of_zero_le hy.1
  have e1:(BitVec.ofInt IntKind.i64.bits ((a:Int) * 256) ||| BitVec.ofInt IntKind.i64.bits (b:Int)).toNat=a * 256 + b:=by
    rw [BitVec.toNat_or]
    have a1:(BitVec.ofInt IntKind.i64.bits ((a:Int) * 256)).toNat=2 ^ 8 * a:=by
      simp only [BitVec.toNat_ofInt,IntKind.bits];omega
    have a2:(BitVec.ofInt IntKind.i64.bits (b:Int)).toNat=b:=by
      simp only [BitVec.toNat_ofInt,IntKind.bits];omega
    rw [a1,a2,← Nat.two_pow_add_eq_or_of_lt (i:=8) (by omega) a]
    omega
  show IntKind.i64.wrap ((BitVec.ofInt IntKind.i64.bits ((a:Int) * 256) ||| BitVec.ofInt IntKind.i64.bits (b:Int)).toNat:Nat)=_
  rw [e1,IntWalk.i64_in _ (by omega)]
  omega
theorem get_any (l:List Int) (hB:IsB l) (h2:2≤l.length):AFn Tryz.prog 88 0 [.isl (bytesC l) l.length] mt (.base (.int .i64 (gB l 0 * 256 + gB l 1))) mt:=by
  refine AFn.eq Tryz.func88 rfl rfl (Nat.le_of_ble_eq_true rfl) ?_
  have b0:=hB.at 0
  have b1:=hB.at 1
  refine Wq (qW 0 1 rfl rfl rfl (qA rfl rfl (Nl ?_)))
  have hsh:IntKind.i64.wrap (gB l 0 * 2 ^ (min (8:Int).toNat IntKind.i64.bits))=gB l 0 * 256:=by
    rw [show (2:Int) ^ (min (8:Int).toNat IntKind.i64.bits)=256 from by decide];exact IntWalk.i64_in _ (by omega)
  have hor:=i64_or b0 b1
  refine Wq (Wd 5 16 (by decide) rfl mixed rfl (qM rfl rfl (qJ rfl rfl rfl rfl rfl ty24 ty5 (by first|omega|decide|assumption|(simp;done)|(simp;omega)) (Od rfl rfl (Li rfl rfl (by_at (k:=0) (by omega)) ty5 rfl) (Od rfl rfl (Ci rfl rfl ty5 ty3 (by (first|exact IntWalk.i64_in _ (by omega)|assumption))) (Od rfl rfl (LO.shl rfl rfl rfl (by first|omega|decide|assumption|(simp;done)|(simp;omega))) ?_))))))
  rw [hsh]
  refine qM rfl rfl (qJ rfl rfl rfl rfl rfl ty24 ty5 (by first|omega|decide|assumption|(simp;done)|(simp;omega)) (Od rfl rfl (Li rfl rfl (by_at (k:=1) (by omega)) ty5 rfl) (Od rfl rfl (Ci rfl rfl ty5 ty3 (by (first|exact IntWalk.i64_in _ (by omega)|assumption))) (Od rfl rfl (LO.or rfl rfl rfl) ?_))))
  rw [hor]
  refine qA rfl rfl (Nl ⟨by kernel_rfl,(Wz ⟨.inl rfl,_,mt,Rc (Rt rfl) (Rn),all_mt,?_⟩)⟩)
  exact ⟨rfl,rfl⟩
def macF (n:Int):List Int:=[2,0,IntKind.u8.wrap (n.fdiv (2 ^ (min (24:Int).toNat IntKind.i64.bits))),IntKind.u8.wrap (n.fdiv (2 ^ (min (16:Int).toNat IntKind.i64.bits))),IntKind.u8.wrap (n.fdiv (2 ^ (min (8:Int).toNat IntKind.i64.bits))),IntKind.u8.wrap n]
theorem macF_isB (n:Int):IsB (macF n):=fun x hx=>by
  simp only [macF,List.mem_cons,List.not_mem_nil,or_false] at hx
  rcases hx with rfl|rfl|rfl|rfl|rfl|rfl
  · decide
  · decide
  · exact u8_bd _
  · exact u8_bd _
  · exact u8_bd _
  · exact u8_bd _
theorem mac_any (n:Int):AFn Tryz.prog 76 0 [.base (.int .i64 n)] mt (.agg (bytesC (macF n))) mt:=by
  refine AFn.eq Tryz.func76 rfl rfl (Nat.le_of_ble_eq_true rfl) (Wq (qW 0 1 rfl rfl rfl (qB rfl ty23 (Nl (Wq (qW 5 18 rfl rfl rfl (qM rfl rfl (Od rfl rfl (LO.shr rfl rfl rfl (by first|omega|decide|assumption|(simp;done)|(simp;omega))) (Od rfl rfl (LO.conv rfl rfl ty3 ty5) (qM rfl rfl (Od rfl rfl (LO.shr rfl rfl rfl (by first|omega|decide|assumption|(simp;done)|(simp;omega))) (Od rfl rfl (LO.conv rfl rfl ty3 ty5) (qM rfl rfl (Od rfl rfl (LO.shr rfl rfl rfl (by first|omega|decide|assumption|(simp;done)|(simp;omega))) (Od rfl rfl (LO.conv rfl rfl ty3 ty5) (qM rfl rfl (Od rfl rfl (LO.conv rfl rfl ty3 ty5) (Od rfl rfl (LO.build_ar rfl ty23 ty5 (.cons rfl rfl rfl rfl (Sl rfl) (.cons rfl rfl rfl rfl (Sl rfl) (.cons rfl rfl rfl rfl (Sl rfl) (.cons rfl rfl rfl rfl (Sl rfl) (.cons rfl rfl rfl rfl (Sl rfl) (.cons rfl rfl rfl rfl (Sl rfl) .nil))))))) (qS rfl rfl rfl rfl rfl ty23 rfl rfl (Sl rfl) (Nl ?_))))))))))))))))))))
  refine W.ret ⟨.inl rfl,_,mt,(RVs.cons (RV.cellA rfl rfl ty23 rfl (Tk.lit rfl)) RVs.nil),(by (repeat' (first|exact all_mt|refine all_up ?_ ?_))<;>rfl),?_⟩
  exact ⟨rfl,rfl⟩
def lsC (L:List (List Int)):List AV:=L.map fun l=>.isl (bytesC l) l.length
theorem lsC_pure (L:List (List Int)):(lsC L).all AV.pure1=true:=by
  induction L with
  | nil=>rfl
  | cons x l ih=>rw [show lsC (x::l)=[.isl (bytesC x) x.length]++lsC l from rfl,List.all_append,ih];rfl
theorem ls_at {L:List (List Int)} {k:Nat} (h:k < L.length):(lsC L)[k * 1]?=some (.isl (bytesC L[k]) L[k].length):=by simp [lsC,h]
theorem ls_tk1 {L:List (List Int)}:Tk (lsC L) (1 * 1) ((L.length - 1) * 1) (lsC (L.drop 1)):=by
  refine ⟨by simp [lsC],fun j c hj=>?_⟩
  simp only [lsC,List.map_drop,List.getElem?_drop] at hj
  exact hj
theorem flat_take {L:List (List Int)} {k:Nat} (h:k < L.length):(L.take (k + 1)).flatten=(L.take k).flatten++L[k]:=by
  rw [List.take_add_one,List.flatten_append]
  simp [h]
theorem flat_le {L:List (List Int)} (k:Nat):(L.take k).flatten.length≤L.flatten.length:=by
  have:L.flatten=(L.take k).flatten++(L.drop k).flatten:=by rw [← List.flatten_append,List.take_append_drop]
  rw [this,List.length_append];omega
set_option maxHeartbeats 1000000 in
theorem join_any (L:List (List Int)) (h2:2≤L.length) (h3:L.length≤1000) (hf0:1≤L.flatten.length) (hf:L.flatten.length≤1000000) (hh:1≤(L[0]'(by omega)).length):AFn Tryz.prog 102 0 [.isl (lsC L) L.length,.nils] mt (.osl 0 0 L.flatten.length 1) (up mt 0 (some (bytesC L.flatten))):=by
  refine AFn.eq Tryz.func102 rfl rfl (Nat.le_of_ble_eq_true rfl) ?_
  have g0:((L.length:Int) == 0)=false:=beq_eq_false_iff_ne.2 (by omega)
  have g1:((L.length:Int) == 1)=false:=beq_eq_false_iff_ne.2 (by omega)
  refine Wq (qW 0 1 rfl rfl rfl (qA rfl rfl (Nl (Wq (Wq (qW 5 8 rfl rfl rfl (qM rfl rfl (qH rfl rfl rfl ty154 (qE rfl rfl rfl (Nl (Wf rfl ‹_› (Wk (Wq (Wq (qW 18 21 rfl rfl rfl (qM rfl rfl (qH rfl rfl rfl ty154 (qE rfl rfl rfl (Nl (Wf rfl ‹_› (Wk (Wq (qW 34 35 rfl rfl rfl (qA rfl rfl (Nl (Wq (Wq (qW 39 42 rfl rfl rfl (qM rfl rfl (qH rfl rfl rfl ty24 (Od rfl rfl (Gt0 rfl rfl rfl) (Nl (Wf rfl rfl (Wk (Wq (Wq (qW 76 79 rfl rfl rfl (qM rfl rfl (qH rfl rfl rfl ty154 (qM rfl rfl (Nl (Wb (W.loop_keep (α:=Nat) (fun x=>L.length - x) 0 (fun x=>[(5,.base (.int .i64 ((L.take x).flatten.length:Int))),(44,.base (.int .i64 (x:Int)))]) (fun x=>mt) (fun x=>x≤L.length) 0 [] (.cons (t:=0) rfl (by first|exact .inl rfl|exact .inr ⟨rfl,fun _ h=>by cases h⟩|(exact .inl (by assumption))|exact .inl (lsC_pure _)|exact .inl (bytesC_pure _)) (.cons (t:=1) rfl (by first|exact .inl rfl|exact .inr ⟨rfl,fun _ h=>by cases h⟩|(exact .inl (by assumption))|exact .inl (lsC_pure _)|exact .inl (bytesC_pure _)) (.cons (t:=42) rfl (by first|exact .inl rfl|exact .inr ⟨rfl,fun _ h=>by cases h⟩|(exact .inl (by assumption))|exact .inl (lsC_pure _)|exact .inl (bytesC_pure _)) (.cons (t:=43) rfl (by first|exact .inl rfl|exact .inr ⟨rfl,fun _ h=>by cases h⟩|(exact .inl (by assumption))|exact .inl (lsC_pure _)|exact .inl (bytesC_pure _)) .nil)))) (show 0≤L.length from Nat.zero_le _) (by decide) ?_ ?_ ?_)))))))))))))))))))))))))))))))))))))))))))
  · (repeat' (first|exact LookR.nil|refine LookR.cons ?_ ?_))<;>first|exact .inl ⟨rfl,rfl⟩|exact .inr ⟨rfl,fun _ h=>by cases h⟩|exact .inl ⟨rfl,by first|rfl|assumption|exact (lsC_pure _)|exact (bytesC_pure _)⟩
  · (repeat' (first|exact all_mt|refine all_up ?_ ?_))<;>first|exact ⟨rfl,_,rfl,.inr ⟨rfl,rfl⟩⟩|exact ⟨rfl,_,rfl,.inl rfl⟩|exact ⟨rfl,_,rfl,.inr ⟨rfl,by first|rfl|assumption|exact (lsC_pure _)|exact (bytesC_pure _)⟩⟩
  rintro i hIA ihA
  try (dsimp only at hIA)
  try dsimp only [baseT,List.cons_append,List.nil_append]
  have hfl:=flat_le (L:=L) i
  by_cases hc:i < L.length
  · have g2:decide ((i:Int) < (L.length:Int))=true:=decide_eq_true (by omega)
    have hfl2:=flat_le (L:=L) (i + 1)
    have hn:=flat_take hc
    have hnl:(L.take (i + 1)).flatten.length=(L.take i).flatten.length + L[i].length:=by rw [hn,List.length_append]
    have g3:decide ((L[i].length:Int) > 9223372036854775807 - ((L.take i).flatten.length:Int))=false:=decide_eq_false (by omega)
    refine Wq (qW 83 84 rfl rfl rfl (qK rfl rfl rfl (Nl (Wq (Wt rfl ‹_› (Wk (Wq (Wb (Wq (qW 88 91 rfl rfl rfl (qJ rfl rfl rfl rfl rfl ty154 ty24 (by first|omega|decide|assumption|(simp;done)|(simp;omega)) (Od rfl rfl (Li rfl rfl (ls_at hc) ty24 rfl) (qA rfl rfl (Nl (Wq (Wq (qW 95 100 rfl rfl rfl (qM rfl rfl (qH rfl rfl rfl ty24 (qM rfl rfl (Od rfl rfl (LO.sub_in rfl rfl rfl (by (first|exact IntWalk.i64_in _ (by omega)|assumption))) (Od rfl rfl (Gt0 rfl rfl rfl) (Nl (Wf rfl ‹_› (Wk (qW 110 115 rfl rfl rfl (qM rfl rfl (qM rfl rfl (qH rfl rfl rfl ty24 (qZ rfl rfl rfl (by (first|exact IntWalk.i64_in _ (by omega)|assumption)) (qA rfl rfl (Nl (qW 119 121 rfl rfl rfl (qZ rfl rfl rfl (by (first|exact IntWalk.i64_in _ (by omega)|assumption)) (qM rfl rfl (Nl ?_))))))))))))))))))))))))))))))))))))
    rw [show (((L.take i).flatten.length:Int) + (L[i].length:Int))=((L.take (i + 1)).flatten.length:Int) from by rw [hnl];omega]
    refine WL.renameL [] 0 (by decide) ?_ ?_ (ihA (i + 1) (show L.length - (i + 1) < L.length - i from by omega) (show (i + 1)≤L.length from by omega))
    · (repeat' (first|exact LookR.nil|refine LookR.cons ?_ ?_))<;>first|exact .inl ⟨rfl,rfl⟩|exact .inr ⟨rfl,fun _ h=>by cases h⟩|exact .inl ⟨rfl,by first|rfl|assumption|exact (lsC_pure _)|exact (bytesC_pure _)⟩
    · (repeat' (first|exact all_mt|refine all_up ?_ ?_))<;>first|exact ⟨rfl,_,rfl,.inr ⟨rfl,rfl⟩⟩|exact ⟨rfl,_,rfl,.inl rfl⟩|exact ⟨rfl,_,rfl,.inr ⟨rfl,by first|rfl|assumption|exact (lsC_pure _)|exact (bytesC_pure _)⟩⟩
  · have g2:decide ((i:Int) < (L.length:Int))=false:=decide_eq_false (by omega)
    refine Wq (qW 83 84 rfl rfl rfl (qK rfl rfl rfl (Nl (Wq (Wf rfl ‹_› (Wx ?_))))))
    obtain rfl:i=L.length:=by omega
    rw [List.take_length]
    refine Wq (qW 125 131 rfl rfl rfl (qM rfl rfl (Od rfl rfl (LO.makeNoZero (n:=L.flatten.length) (ps:=#[3]) rfl rfl rfl Tryz.func106 (by kernel_rfl) (by kernel_rfl) (by kernel_rfl) (by kernel_rfl) ty24 (by omega)) (qM rfl rfl (qM rfl rfl (Od rfl rfl (LO.slice3 rfl rfl rfl rfl (by first|omega|decide|assumption|(simp;done)|(simp;omega)) ty24 ty5) (qA rfl rfl (Nl ?_))))))))
    have hcp:Cp ([]:List AV) 0 (bytesC L[0]) (bytesC L[0]):=Cp.app (cs:=[]) rfl
    have hL1:0 < L.length:=by omega
    have hL0:L[0].length≤L.flatten.length:=by
      have:=flat_le (L:=L) 1
      rw [show (L.take 1).flatten=L[0] from by rw [show (1:Nat)=0 + 1 from rfl,flat_take (k:=0) (by omega)];simp] at this
      exact this
    refine Wq (qW 135 141 rfl rfl rfl (qM rfl rfl (qM rfl rfl (qJ rfl rfl rfl rfl rfl ty154 ty24 (by (first|omega|decide|assumption|simp [bytesC]|(simp;done)|(simp;omega))) (Od rfl rfl (Li rfl rfl (ls_at (k:=0) (by omega)) ty24 rfl) (Od rfl rfl (LO.copy rfl rfl (Ssi rfl rfl (by first|rfl|assumption|simp [bytesC])) rfl hcp ty24 ty24 ty5 (by decide) (by (first|omega|decide|assumption|simp [bytesC]|(simp;done)|(simp;omega))) (by (first|omega|decide|assumption|simp [bytesC]|(simp;done)|(simp;omega)))) (qA rfl rfl (Nl (Wq (Wq (qW 145 149 rfl rfl rfl (qM rfl rfl (Od rfl rfl (Lsi rfl rfl rfl (Ba rfl rfl) Bnd.no (by first|omega|decide|assumption|(simp;done)|(simp;omega)) (by first|omega|decide|assumption|(simp;done)|(simp;omega)) ty154 ty24 (ls_tk1 (L:=L))) (qH rfl rfl rfl ty154 (qM rfl rfl (Nl ?_))))))))))))))))
    have hdl:(L.drop 1).length=L.length - 1:=by simp
    have hb1:bytesC L[0]=bytesC (L.take (0 + 1)).flatten:=by rw [flat_take (k:=0) (by omega)];simp
    have hl1:(L[0].length:Int)=((L.take (0 + 1)).flatten.length:Int):=by rw [flat_take (k:=0) (by omega)];simp
    rw [hb1,hl1]
    obtain ⟨n,hn⟩:∃ n,L.flatten.length=n:=⟨_,rfl⟩
    rw [hn] at hf0 hf hL0 ⊢
    refine Wb (W.loop_keep (α:=Nat) (fun x=>L.length - x) 1 (fun x=>[(8,.osl 0 0 n 1),(9,.base (.int .i64 ((L.take (x + 1)).flatten.length:Int))),(72,.base (.int .i64 (x:Int)))]) (fun x=>up mt 0 (some (bytesC (L.take (x + 1)).flatten))) (fun x=>x + 1≤L.length) 0 [(0,126)] (.cons (t:=1) rfl (by first|exact .inl rfl|exact .inr ⟨rfl,fun _ h=>by cases h⟩|(exact .inl (by assumption))|exact .inl (lsC_pure _)|exact .inl (bytesC_pure _)) (.cons (t:=70) rfl (by first|exact .inl rfl|exact .inr ⟨rfl,fun _ h=>by cases h⟩|(exact .inl (by assumption))|exact .inl (lsC_pure _)|exact .inl (bytesC_pure _)) (.cons (t:=71) rfl (by first|exact .inl rfl|exact .inr ⟨rfl,fun _ h=>by cases h⟩|(exact .inl (by assumption))|exact .inl (lsC_pure _)|exact .inl (bytesC_pure _)) .nil))) (show 0 + 1≤L.length from by omega) (by decide) ?_ ?_ ?_)
    · (repeat' (first|exact LookR.nil|refine LookR.cons ?_ ?_))<;>first|exact .inl ⟨rfl,rfl⟩|exact .inr ⟨rfl,fun _ h=>by cases h⟩|exact .inl ⟨rfl,by first|rfl|assumption|exact (lsC_pure _)|exact (bytesC_pure _)⟩
    · (repeat' (first|exact all_mt|refine all_up ?_ ?_))<;>first|exact ⟨rfl,_,rfl,.inr ⟨rfl,rfl⟩⟩|exact ⟨rfl,_,rfl,.inl rfl⟩|exact ⟨rfl,_,rfl,.inr ⟨rfl,by first|rfl|assumption|exact (lsC_pure _)|exact (bytesC_pure _)⟩⟩
    rintro i hIB ihB
    try (dsimp only at hIB)
    try dsimp only [baseT,List.cons_append,List.nil_append]
    have hfl:=flat_le (L:=L) (i + 1)
    rw [hn] at hfl
    obtain ⟨acc,hacc⟩:∃ acc,(L.take (i + 1)).flatten=acc:=⟨_,rfl⟩
    rw [hacc] at hfl ⊢
    by_cases hc:i < L.length - 1
    · have g5:decide ((i:Int) < ((L.length - 1:Nat):Int))=true:=decide_eq_true (by omega)
      have hft:=flat_take (L:=L) (k:=i + 1) (by omega)
      have hfl2:=flat_le (L:=L) (i + 1 + 1)
      obtain ⟨p,hp⟩:∃ p,L[i + 1]=p:=⟨_,rfl⟩
      rw [hacc,hp] at hft
      rw [hn,hft,List.length_append] at hfl2
      have hat:(lsC (L.drop 1))[i * 1]?=some (.isl (bytesC p) p.length):=by
        rw [ls_at (by rw [hdl];exact hc)]
        have e:(L.drop 1)[i]'(by rw [hdl];exact hc)=p:=by rw [← hp,List.getElem_drop];congr 1;omega
        rw [e]
      refine Wq (qW 153 154 rfl rfl rfl (qK rfl rfl rfl (Nl (Wq (Wt rfl ‹_› (Wk (Wq (Wb (Wq (qW 158 161 rfl rfl rfl (qJ rfl rfl rfl rfl rfl ty154 ty24 (by first|omega|decide|assumption|(simp;done)|(simp;omega)) (Od rfl rfl (Li rfl rfl hat ty24 rfl) (qA rfl rfl (Nl (Wq (qW 165 173 rfl rfl rfl (qM rfl rfl (qM rfl rfl (qM rfl rfl (Od rfl rfl (LO.slice rfl rfl (Ba rfl rfl) Bnd.no (by first|omega|decide|assumption|(simp;done)|(simp;omega)) (by first|omega|decide|assumption|(simp;done)|(simp;omega)) ty24 ty5) (qM rfl rfl (Od rfl rfl (LO.copy_nil rfl rfl rfl rfl ty24 ty5) (qZ rfl rfl rfl (by (first|exact IntWalk.i64_in _ (by omega)|assumption)) (qA rfl rfl (Nl ?_)))))))))))))))))))))))))
      rw [Int.add_zero]
      rcases Nat.eq_zero_or_pos p.length with hz|hz
      · obtain rfl:p=[]:=List.eq_nil_of_length_eq_zero hz
        rw [List.append_nil] at hft
        refine qW 177 185 rfl rfl rfl (qM rfl rfl (qM rfl rfl (qM rfl rfl (Od rfl rfl (LO.slice rfl rfl (Ba rfl rfl) Bnd.no (by first|omega|decide|assumption|(simp;done)|(simp;omega)) (by first|omega|decide|assumption|(simp;done)|(simp;omega)) ty24 ty5) (qM rfl rfl (Od rfl rfl (LO.copy_nil rfl rfl rfl rfl ty24 ty5) (qZ rfl rfl rfl (by (first|exact IntWalk.i64_in _ (by omega)|assumption)) (qA rfl rfl (Nl ?_)))))))))
        rw [Int.add_zero]
        rw [← hft]
        refine qW 189 191 rfl rfl rfl (qZ rfl rfl rfl (by (first|exact IntWalk.i64_in _ (by omega)|assumption)) (qM rfl rfl (Nl (WL.renameL [(0,0)] 1 (by decide) ?_ ?_ (ihB (i + 1) (show L.length - (i + 1) < L.length - i from by omega) (show (i + 1) + 1≤L.length from by omega))))))
        · (repeat' (first|exact LookR.nil|refine LookR.cons ?_ ?_))<;>first|exact .inl ⟨rfl,rfl⟩|exact .inr ⟨rfl,fun _ h=>by cases h⟩|exact .inl ⟨rfl,by first|rfl|assumption|exact (lsC_pure _)|exact (bytesC_pure _)⟩
        · (repeat' (first|exact all_mt|refine all_up ?_ ?_))<;>first|exact ⟨rfl,_,rfl,.inr ⟨rfl,rfl⟩⟩|exact ⟨rfl,_,rfl,.inl rfl⟩|exact ⟨rfl,_,rfl,.inr ⟨rfl,by first|rfl|assumption|exact (lsC_pure _)|exact (bytesC_pure _)⟩⟩
      · have hcp:Cp (bytesC acc) (0 + acc.length * 1) (bytesC p) (bytesC acc++bytesC p):=Cp.app (by rw [bytesC_len];omega)
        refine qW 177 185 rfl rfl rfl (qM rfl rfl (qM rfl rfl (qM rfl rfl (Od rfl rfl (LO.slice rfl rfl (Ba rfl rfl) Bnd.no (by (first|omega|decide|assumption|simp [bytesC]|(simp;done)|(simp;omega))) (by (first|omega|decide|assumption|simp [bytesC]|(simp;done)|(simp;omega))) ty24 ty5) (qM rfl rfl (Od rfl rfl (LO.copy rfl rfl (Ssi rfl rfl (by first|rfl|assumption|simp [bytesC])) rfl hcp ty24 ty24 ty5 (by decide) (by (first|omega|decide|assumption|simp [bytesC]|(simp;done)|(simp;omega))) (by (first|omega|decide|assumption|simp [bytesC]|(simp;done)|(simp;omega)))) (qZ rfl rfl rfl (by (first|exact IntWalk.i64_in _ (by omega)|assumption)) (qA rfl rfl (Nl ?_)))))))))
        rw [← bytesC_app,← hft,show (acc.length:Int) + (p.length:Int)=((L.take (i + 1 + 1)).flatten.length:Int) from by rw [hft,List.length_append];omega]
        refine qW 189 191 rfl rfl rfl (qZ rfl rfl rfl (by (first|exact IntWalk.i64_in _ (by omega)|assumption)) (qM rfl rfl (Nl (WL.renameL [(0,0)] 1 (by decide) ?_ ?_ (ihB (i + 1) (show L.length - (i + 1) < L.length - i from by omega) (show (i + 1) + 1≤L.length from by omega))))))
        · (repeat' (first|exact LookR.nil|refine LookR.cons ?_ ?_))<;>first|exact .inl ⟨rfl,rfl⟩|exact .inr ⟨rfl,fun _ h=>by cases h⟩|exact .inl ⟨rfl,by first|rfl|assumption|exact (lsC_pure _)|exact (bytesC_pure _)⟩
        · (repeat' (first|exact all_mt|refine all_up ?_ ?_))<;>first|exact ⟨rfl,_,rfl,.inr ⟨rfl,rfl⟩⟩|exact ⟨rfl,_,rfl,.inl rfl⟩|exact ⟨rfl,_,rfl,.inr ⟨rfl,by first|rfl|assumption|exact (lsC_pure _)|exact (bytesC_pure _)⟩⟩
    · have g5:decide ((i:Int) < ((L.length - 1:Nat):Int))=false:=decide_eq_false (by omega)
      have he:acc=L.flatten:=by rw [← hacc,show i + 1=L.length from by omega,List.take_length]
      refine Wq (qW 153 154 rfl rfl rfl (qK rfl rfl rfl (Nl (Wq (Wf rfl ‹_› (Wx ?_))))))
      subst he
      refine Wq (qW 195 197 rfl rfl rfl (qM rfl rfl (qA rfl rfl (Nl (W.rename [(0,0)] 1 (T':=up mt 4 (some (.osl 0 0 (n) 1))) (H':=up mt 0 (some (bytesC L.flatten))) (by decide) ?_ ?_ ?_)))))
      · (repeat' (first|exact all_mt|refine all_up ?_ ?_))<;>first|exact .inl ⟨rfl,rfl⟩|exact .inr ⟨rfl,fun _ h=>by cases h⟩|exact .inl ⟨rfl,by first|rfl|assumption|exact (lsC_pure _)|exact (bytesC_pure _)⟩
      · (repeat' (first|exact all_mt|refine all_up ?_ ?_))<;>first|exact ⟨rfl,_,rfl,.inr ⟨rfl,rfl⟩⟩|exact ⟨rfl,_,rfl,.inl rfl⟩|exact ⟨rfl,_,rfl,.inr ⟨rfl,by first|rfl|assumption|exact (lsC_pure _)|exact (bytesC_pure _)⟩⟩
      refine Wz ⟨.inl rfl,_,up mt 0 (some (bytesC L.flatten)),Rc (Rt rfl) Rn,all_up rfl all_mt,?_⟩
      exact ⟨rfl,rfl⟩
end Go.Proofs.YtcidmiacfjdepaaGreatDoor
namespace Go.Proofs.YtcidmiacfjdepaaGreatDoor
open Go.RowKit
theorem put_isl (l:List Int) (n:Int) (hl:l.length≤1000000):AFn Tryz.prog 103 1 [.osl 0 0 l.length 1,.base (.int .i64 n)] (up mt 0 (some (bytesC l))) (.isl (bytesC (l++putL n)) (l.length + 2)) mt:=by
  refine AFn.eq Tryz.func103 rfl rfl (Nat.le_of_ble_eq_true rfl) (Wq (qW 1 2 rfl rfl rfl (qA rfl rfl (Nl (Wq (qW 6 15 rfl rfl rfl (qM rfl rfl (qM rfl rfl (Od rfl rfl (LO.shr rfl rfl rfl (by first|omega|decide|assumption|(simp;done)|(simp;omega))) (Od rfl rfl (LO.conv rfl rfl ty3 ty5) (qM rfl rfl (Od rfl rfl (LO.conv rfl rfl ty3 ty5) (Od rfl rfl (LO.buildSlice rfl ty24 ty5 (by decide) (by decide) (.cons rfl rfl rfl rfl (Sl rfl) (.cons rfl rfl rfl rfl (Sl rfl) .nil))) (Od rfl rfl (Lap rfl rfl (Sso rfl rfl (Tl rfl)) rfl (bytes_tk rfl) ty24 ty24 ty5 (by decide) (by first|omega|decide|assumption|(simp;done)|(simp;omega)) (by first|omega|decide|assumption|(simp;done)|(simp;omega)) (by first|decide|omega)) (qA rfl rfl (Nl ?_))))))))))))))))
  rw [show bytesC l++[AV.base (.int .u8 (IntKind.u8.wrap (n.fdiv (2 ^ (min (8:Int).toNat IntKind.i64.bits))))),AV.base (.int .u8 (IntKind.u8.wrap n))]=bytesC (l++putL n) from by rw [bytesC_app];rfl]
  refine Wy (t:=4) rfl rfl (bytes_tk (by rw [List.length_append];rfl)) (bytesC_pure _) (Wz ⟨.inl rfl,_,mt,Rc (Rt rfl) (Rn),all_mt,?_⟩)
  exact ⟨rfl,rfl⟩
def len4 (n:Nat):List Int:=[0,(n:Int) / 65536 % 256,(n:Int) / 256 % 256,(n:Int) % 256]
theorem sh_i64 (n:Nat) (k:Nat) (hk:k < 64):(n:Int).fdiv (2 ^ (min (k:Int).toNat IntKind.i64.bits))=(n:Int) / 2 ^ k:=by
  rw [Int.toNat_natCast,Nat.min_eq_left (show k≤IntKind.i64.bits from by show _≤64;omega),Int.fdiv_eq_ediv_of_nonneg _ (Int.le_of_lt (Int.pow_pos (by decide)))]
theorem put_len4 {n:Nat} (h:n < 16777216):putL ((n:Int).fdiv (2 ^ (min (16:Int).toNat IntKind.i64.bits)))++putL n=len4 n:=by
  have e16:=sh_i64 n 16 (by decide)
  have e8:=sh_i64 n 8 (by decide)
  have e8':=sh_i64 (n / 65536) 8 (by decide)
  simp only [putL,hi8,len4]
  rw [show ((16:Nat):Int)=16 from rfl] at e16
  rw [show ((8:Nat):Int)=8 from rfl] at e8 e8'
  rw [e16,show (n:Int) / 2 ^ 16=((n / 65536:Nat):Int) from by omega,e8',e8,IntKind.wrap_u8',IntKind.wrap_u8',IntKind.wrap_u8',IntKind.wrap_u8']
  simp only [List.cons_append,List.nil_append,List.cons.injEq,and_true]
  omega
def chkParts (s d:Ad) (p:Int) (l:List Int):List (List Int):=[addrL s,addrL d,len4 l.length,[0,0,0,IntKind.u8.wrap p],l]
def chkB (s d:Ad) (p:Int) (l:List Int):List Int:=(chkParts s d p l).flatten
def chkF (s d:Ad) (p:Int) (l:List Int):Int:=sumL (chkB s d p l)
theorem chkB_eq (s d:Ad) (p:Int) (l:List Int):chkB s d p l=addrL s++addrL d++(len4 l.length++[0,0,0,IntKind.u8.wrap p])++l:=by simp [chkB,chkParts]
theorem len4_isB (n:Nat):IsB (len4 n):=fun x hx=>by
  simp only [len4,List.mem_cons,List.not_mem_nil,or_false] at hx
  rcases hx with rfl|rfl|rfl|rfl<;>omega
theorem pr_isB (p:Int):IsB [0,0,0,IntKind.u8.wrap p]:=fun x hx=>by
  have:=u8_bd p
  simp only [List.mem_cons,List.not_mem_nil,or_false] at hx
  rcases hx with rfl|rfl|rfl|rfl<;>omega
theorem chkB_isB (s d:Ad) (p:Int) {l:List Int} (hB:IsB l):IsB (chkB s d p l):=by
  rw [chkB_eq]
  exact (((addrL_isB s).append (addrL_isB d)).append ((len4_isB _).append (pr_isB p))).append hB
theorem addrL_pos (a:Ad):1≤(addrL a).length∧(addrL a).length≤16:=by rw [addrL_len];split<;>omega
theorem chkB_len (s d:Ad) (p:Int) (l:List Int):(chkB s d p l).length=(addrL s).length + (addrL d).length + 8 + l.length:=by
  rw [chkB_eq];simp [len4];omega
set_option maxHeartbeats 1000000 in
theorem chk_any (s d:Ad) (p:Int) (l:List Int) (hs:validA s.v6 s.hi s.lo=true) (hd:validA d.v6 d.hi d.lo=true) (s1:U64 s.hi) (s2:U64 s.lo) (d1:U64 d.hi) (d2:U64 d.lo) (hB:IsB l) (hl:l.length≤100000) :
    AFn Tryz.prog 91 0 [.agg (adC s),.agg (adC d),.base (.int .i64 p),.isl (bytesC l) l.length] mt (.base (.int .u16 (chkF s d p l))) mt:=by
  refine AFn.eq Tryz.func91 rfl rfl (Nat.le_of_ble_eq_true rfl) ?_
  have hbs:=(bytes_any s hs s1 s2).frozen (bytes_tk rfl) (bytesC_pure _)
  have hbd:=(bytes_any d hd d1 d2).frozen (bytes_tk rfl) (bytesC_pure _)
  have p1:=addrL_pos s
  have p2:=addrL_pos d
  have hcl:=chkB_len s d p l
  have hsm:=sum_any (chkB s d p l) (chkB_isB s d p hB) (by omega)
  have hj:=join_any (chkParts s d p l) (Nat.le_of_ble_eq_true rfl) (Nat.le_of_ble_eq_true rfl) (show 1≤(chkB s d p l).length by omega) (show (chkB s d p l).length≤1000000 by omega) p1.1
  have hpn:=put_len4 (n:=l.length) (by omega)
  have hpi:=put_isl (putL ((l.length:Int).fdiv (2 ^ (min (16:Int).toNat IntKind.i64.bits)))) (l.length:Int) (Nat.le_of_ble_eq_true rfl)
  rw [hpn] at hpi
  refine Wq (qW 0 3 rfl rfl rfl (qC rfl rfl rfl (qC rfl rfl rfl (qA rfl rfl (Nl (Wq (qW 7 10 rfl rfl rfl (qM rfl rfl (qH rfl rfl rfl ty24 (qA rfl rfl (Nl (Wq (Wd 14 31 (by decide) rfl mixed rfl (qG rfl rfl rfl ty42 rfl (Tl rfl) (Od rfl rfl (C0 (fr:=[]) rfl rfl (hbs) fok92 (.cons rfl (.pure rfl) .nil) rfl) (qG rfl rfl rfl ty42 rfl (Tl rfl) (Od rfl rfl (C0 (fr:=[]) rfl rfl (hbd) fok92 (.cons rfl (.pure rfl) .nil) rfl) (qM rfl rfl (Od rfl rfl (LO.shr rfl rfl rfl (by first|omega|decide|assumption|(simp;done)|(simp;omega))) (Od rfl rfl (LO.callO (fr:=[]) rfl rfl (put_nil _) fok103 (.cons rfl (.pure rfl) (.cons rfl (.pure rfl) .nil)) rfl (by decide)) (qM rfl rfl (Od rfl rfl (LO.callD (fr:=[]) rfl rfl (hpi) fok103 (.osl rfl rfl (.cons rfl (.pure rfl) .nil)) rfl rfl rfl (Cn _ _) (by decide) (by decide) (by decide)) (qM rfl rfl (Od rfl rfl (LO.conv rfl rfl ty3 ty5) (Od rfl rfl (LO.buildSlice rfl ty24 ty5 (by decide) (by decide) (.cons rfl rfl rfl rfl (Sl rfl) (.cons rfl rfl rfl rfl (Sl rfl) (.cons rfl rfl rfl rfl (Sl rfl) (.cons rfl rfl rfl rfl (Sl rfl) .nil))))) (qM rfl rfl (Od rfl rfl (LO.buildSlice rfl ty154 ty24 (by decide) (by decide) (.cons rfl rfl rfl rfl (Sl rfl) (.cons rfl rfl rfl rfl (Sl rfl) (.cons rfl rfl rfl rfl (Sl rfl) (.cons rfl rfl rfl rfl (Sl rfl) (.cons rfl rfl rfl rfl (Sl rfl) .nil)))))) (Od rfl rfl (LO.callO (fr:=[27,25]) rfl rfl (hj) fok102 (.cons rfl (.nest (by decide) rfl (Tl rfl) (.cons (.same rfl) (.cons (.same rfl) (.cons (.same rfl) (.cons (.osl (by decide) rfl (Tl rfl) rfl) (.cons (.same rfl) .nil)))))) (.cons rfl (.pure rfl) .nil)) (bytesC_pure _) (by decide)) (Od rfl rfl (C0 (fr:=[28]) rfl rfl (hsm) fok89 (.cons rfl (.one (.osl (by decide) rfl (bytes_tk rfl) (bytesC_pure _))) .nil) rfl) (qA rfl rfl (Nl ⟨by kernel_rfl,(Wz ⟨.inl rfl,_,mt,Rc (Rt rfl) (Rn),all_mt,?_⟩)⟩)))))))))))))))))))))))))))))))
  exact ⟨rfl,rfl⟩
end Go.Proofs.YtcidmiacfjdepaaGreatDoor
