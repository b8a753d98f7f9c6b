/-
  Bytes that are changed.
-/
import Derived.Test.YtcidmiacfjdepaaGreatDoorCz
import Derived.Test.YtcidmiacfjdepaaGreatDoorMab
namespace Go.Proofs.YtcidmiacfjdepaaGreatDoor
open Go.RowKit
set_option maxHeartbeats 2000000 in
theorem spo_any (l:List Int) (a b:Int) (hB:IsB l) (hl:l.length≤100000):∃ L:List Int,(IsB L∧L.length≤l.length + 1)∧AFn Tryz.prog 7 0 [.isl (bytesC l) l.length,.base (.int .i64 a),.base (.int .i64 b)] mt (.isl (bytesC L) L.length) mt:=by
  obtain ⟨v,hv⟩:∃ v,IntKind.u8.wrap b=v:=⟨_,rfl⟩
  have hvb:0≤v∧v≤255:=by rw [← hv];exact u8_bd _
  by_cases h0:l.length=0
  · have hnil:l=[]:=List.eq_nil_of_length_eq_zero h0
    subst hnil
    refine ⟨[v],⟨fun x hx=>by rw [List.mem_singleton] at hx;subst hx;exact hvb,by simp⟩,?_⟩
    refine AFn.eq Tryz.func7 rfl rfl (Nat.le_of_ble_eq_true rfl) (Wq (qW 0 1 rfl rfl rfl (qA rfl rfl (Nl (Wq (qW 5 8 rfl rfl rfl (qM rfl rfl (Od rfl rfl (Lan rfl rfl (Ssi rfl rfl rfl) ty24 ty24 ty5 (by decide) (by decide) (by decide) (by decide)) (qA rfl rfl (Nl (Wq (Wq (qW 12 15 rfl rfl rfl (qM rfl rfl (Od rfl rfl (LO.len rfl rfl ty24) (qE rfl rfl rfl (Nl (Wt rfl rfl (Wq (qW 19 23 rfl rfl rfl (qM rfl rfl (Od rfl rfl (LO.conv rfl rfl ty3 ty5) (Od rfl rfl (LO.buildSlice rfl ty24 ty5 (by decide) (by decide) (.cons rfl rfl rfl rfl (Sl rfl) .nil)) (qA rfl rfl (Nl ?_)))))))))))))))))))))))))
    rw [hv]
    refine Wy (t:=6) rfl rfl (bytes_tk (l:=[v]) rfl) (bytesC_pure _) ?_
    refine W.ret ⟨.inl rfl,_,mt,(RVs.cons (RV.tmp rfl) RVs.nil),(by (repeat' (first|exact all_mt|refine all_up ?_ ?_))<;>rfl),?_⟩
    exact ⟨rfl,rfl⟩
  · obtain ⟨k,hk1,hk2⟩:=emod_nat a (show 0 < l.length by omega)
    have hm1:=mod_any a l.length (by omega) (by omega)
    rw [hk1] at hm1
    have g0:((l.length:Int) == 0)=false:=by rw [beq_eq_false_iff_ne];omega
    obtain ⟨q,hq1,hq2⟩:=emod_nat (IntKind.i64.wrap (b.tdiv 256)) (show 0 < 4 by decide)
    have hm2:=mod_any (IntKind.i64.wrap (b.tdiv 256)) 4 (by decide) (by decide)
    rw [show IntKind.i64.wrap (b.tdiv 256) % 4=(q:Int) from hq1] at hm2
    have hkt:(l.take k).length=k:=by rw [List.length_take];exact Nat.min_eq_left (by omega)
    have hkd:(l.drop k).length=l.length - k:=by simp
    have hkd1:(l.drop (k + 1)).length=l.length - (k + 1):=by simp
    rcases (show q=0∨q=1∨q=2∨q=3 by omega) with rfl|rfl|rfl|rfl
    · refine ⟨l.set k v,⟨hB.set k hvb,by simp⟩,?_⟩
      refine AFn.eq Tryz.func7 rfl rfl (Nat.le_of_ble_eq_true rfl) (Wq (qW 0 1 rfl rfl rfl (qA rfl rfl (Nl (Wq (qW 5 8 rfl rfl rfl (qM rfl rfl (Od rfl rfl (Lan rfl rfl (Ssi rfl rfl (by simp [bytesC_len])) ty24 ty24 ty5 (by decide) (by omega) (by omega) (by decide)) (qA rfl rfl (Nl (Wq (Wq (qW 12 15 rfl rfl rfl (qM rfl rfl (Od rfl rfl (LO.len rfl rfl ty24) (qE rfl rfl rfl (Nl (Wf rfl ‹_› (Wk (Wq (qW 27 32 rfl rfl rfl (qM rfl rfl (qM rfl rfl (Od rfl rfl (LO.len rfl rfl ty24) (Od rfl rfl (C0 (fr:=[]) rfl rfl (hm1) fok22 (.cons rfl (.pure rfl) (.cons rfl (.pure rfl) .nil)) rfl) (qA rfl rfl (Nl (Wq (Wq (qW 36 39 rfl rfl rfl (qM rfl rfl (Od rfl rfl (LO.quo rfl rfl rfl (by decide)) (Od rfl rfl (C0 (fr:=[]) rfl rfl (hm2) fok22 (.cons rfl (.pure rfl) (.cons rfl (.pure rfl) .nil)) rfl) (Nl (Wb (Wq (qW 43 45 rfl rfl rfl (qE rfl rfl rfl (qA rfl rfl (Nl (Wt rfl (rfl) (qW 49 55 rfl rfl rfl (qM rfl rfl (qM rfl rfl (qM rfl rfl (Od rfl rfl (LO.conv rfl rfl ty3 ty5) (Od rfl rfl (Ia rfl rfl rfl rfl ty24 ty5 (by first|omega|decide|assumption|(simp;done)|(simp;omega))) (qS rfl rfl rfl rfl rfl ty5 rfl rfl (by_sp (by first|omega|(simp;omega))) (Nl ?_)))))))))))))))))))))))))))))))))))))))))))))))))
      rw [hv]
      refine Wq (qW 109 111 rfl rfl rfl (qM rfl rfl (qA rfl rfl (Nl ?_))))
      have hsl:(l.set k v).length=l.length:=by simp
      refine Wy (t:=6) rfl rfl (bytes_tk (l:=l.set k v) hsl) (bytesC_pure _) ?_
      refine W.ret ⟨.inl rfl,_,mt,(RVs.cons (RV.tmp rfl) RVs.nil),(by (repeat' (first|exact all_mt|refine all_up ?_ ?_))<;>rfl),?_⟩
      exact ⟨by rw [hsl];rfl,rfl⟩
    · refine ⟨l.take k++l.drop (k + 1),⟨(hB.take k).append (hB.drop (k + 1)),by simp;omega⟩,?_⟩
      refine AFn.eq Tryz.func7 rfl rfl (Nat.le_of_ble_eq_true rfl) (Wq (qW 0 1 rfl rfl rfl (qA rfl rfl (Nl (Wq (qW 5 8 rfl rfl rfl (qM rfl rfl (Od rfl rfl (Lan rfl rfl (Ssi rfl rfl (by simp [bytesC_len])) ty24 ty24 ty5 (by decide) (by omega) (by omega) (by decide)) (qA rfl rfl (Nl (Wq (Wq (qW 12 15 rfl rfl rfl (qM rfl rfl (Od rfl rfl (LO.len rfl rfl ty24) (qE rfl rfl rfl (Nl (Wf rfl ‹_› (Wk (Wq (qW 27 32 rfl rfl rfl (qM rfl rfl (qM rfl rfl (Od rfl rfl (LO.len rfl rfl ty24) (Od rfl rfl (C0 (fr:=[]) rfl rfl (hm1) fok22 (.cons rfl (.pure rfl) (.cons rfl (.pure rfl) .nil)) rfl) (qA rfl rfl (Nl (Wq (Wq (qW 36 39 rfl rfl rfl (qM rfl rfl (Od rfl rfl (LO.quo rfl rfl rfl (by decide)) (Od rfl rfl (C0 (fr:=[]) rfl rfl (hm2) fok22 (.cons rfl (.pure rfl) (.cons rfl (.pure rfl) .nil)) rfl) (Nl (Wb (Wq (qW 43 45 rfl rfl rfl (qE rfl rfl rfl (qA rfl rfl (Nl (Wf rfl (rfl) (Wq (qW 59 61 rfl rfl rfl (qE rfl rfl rfl (qA rfl rfl (Nl (Wt rfl (rfl) ?_)))))))))))))))))))))))))))))))))))))))))))))))
      have hka:(k:Int) + 1=((k + 1:Nat):Int):=by omega
      refine Wq (Wd 65 74 (by decide) rfl mixed rfl (qM rfl rfl (qM rfl rfl (Od rfl rfl (LO.slice rfl rfl Bnd.no (Ba rfl rfl) (by first|omega|decide|assumption|(simp;done)|(simp;omega)) (by first|omega|decide|assumption|(simp;done)|(simp;omega)) ty24 ty5) (qM rfl rfl (qM rfl rfl (qZ rfl rfl rfl (by (first|exact IntWalk.i64_in _ (by omega)|assumption)) (Od rfl rfl (LO.slice rfl rfl (Ba rfl rfl) Bnd.no (by first|omega|decide|assumption|(simp;done)|(simp;omega)) (by first|omega|decide|assumption|(simp;done)|(simp;omega)) ty24 ty5) (Od rfl rfl (Lap rfl rfl (Sso rfl rfl (by_from (l:=l) (k:=k + 1) (m:=l.length - (k + 1)) (by omega))) rfl (by_take (by omega)) ty24 ty24 ty5 (by decide) (by omega) (by omega) (by decide)) (qA rfl rfl (Nl ⟨by kernel_rfl,(Wy (t:=6) rfl rfl (cs:=bytesC (l.take k)++bytesC (l.drop (k + 1))) (by rw [← bytesC_app];exact bytes_tk (l:=l.take k++l.drop (k + 1)) (by rw [List.length_append,hkt,hkd1];rfl)) (bytesC_pure _) ?_)⟩)))))))))))
      refine W.ret ⟨.inl rfl,_,mt,(RVs.cons (RV.tmp rfl) RVs.nil),(by (repeat' (first|exact all_mt|refine all_up ?_ ?_))<;>rfl),?_⟩
      exact ⟨by rw [List.length_append,hkt,hkd1];rfl,rfl⟩
    · refine ⟨l.take k++[v]++l.drop k,⟨((hB.take k).append (fun x hx=>by rw [List.mem_singleton] at hx;subst hx;exact hvb)).append (hB.drop k),by simp;omega⟩,?_⟩
      refine AFn.eq Tryz.func7 rfl rfl (Nat.le_of_ble_eq_true rfl) (Wq (qW 0 1 rfl rfl rfl (qA rfl rfl (Nl (Wq (qW 5 8 rfl rfl rfl (qM rfl rfl (Od rfl rfl (Lan rfl rfl (Ssi rfl rfl (by simp [bytesC_len])) ty24 ty24 ty5 (by decide) (by omega) (by omega) (by decide)) (qA rfl rfl (Nl (Wq (Wq (qW 12 15 rfl rfl rfl (qM rfl rfl (Od rfl rfl (LO.len rfl rfl ty24) (qE rfl rfl rfl (Nl (Wf rfl ‹_› (Wk (Wq (qW 27 32 rfl rfl rfl (qM rfl rfl (qM rfl rfl (Od rfl rfl (LO.len rfl rfl ty24) (Od rfl rfl (C0 (fr:=[]) rfl rfl (hm1) fok22 (.cons rfl (.pure rfl) (.cons rfl (.pure rfl) .nil)) rfl) (qA rfl rfl (Nl (Wq (Wq (qW 36 39 rfl rfl rfl (qM rfl rfl (Od rfl rfl (LO.quo rfl rfl rfl (by decide)) (Od rfl rfl (C0 (fr:=[]) rfl rfl (hm2) fok22 (.cons rfl (.pure rfl) (.cons rfl (.pure rfl) .nil)) rfl) (Nl (Wb (Wq (qW 43 45 rfl rfl rfl (qE rfl rfl rfl (qA rfl rfl (Nl (Wf rfl (rfl) (Wq (qW 59 61 rfl rfl rfl (qE rfl rfl rfl (qA rfl rfl (Nl (Wf rfl (rfl) (Wq (qW 78 80 rfl rfl rfl (qE rfl rfl rfl (qA rfl rfl (Nl (Wt rfl (rfl) (Wq (Wd 84 97 (by decide) rfl mixed rfl (qM rfl rfl (qM rfl rfl (Od rfl rfl (LO.slice rfl rfl Bnd.no (Ba rfl rfl) (by first|omega|decide|assumption|(simp;done)|(simp;omega)) (by first|omega|decide|assumption|(simp;done)|(simp;omega)) ty24 ty5) (Od rfl rfl (Lan rfl rfl (Sso rfl rfl (by_take (by omega))) ty24 ty24 ty5 (by decide) (by omega) (by omega) (by decide)) (qM rfl rfl (Od rfl rfl (LO.conv rfl rfl ty3 ty5) (Od rfl rfl (LO.buildSlice rfl ty24 ty5 (by decide) (by decide) (.cons rfl rfl rfl rfl (Sl rfl) .nil)) (Od rfl rfl (Lap rfl rfl (Sso rfl rfl (Tl rfl)) rfl (bytes_tk (l:=l.take k) (by omega)) ty24 ty24 ty5 (by decide) (by omega) (by omega) (by decide)) (qM rfl rfl (qM rfl rfl (Od rfl rfl (LO.slice rfl rfl (Ba rfl rfl) Bnd.no (by first|omega|decide|assumption|(simp;done)|(simp;omega)) (by first|omega|decide|assumption|(simp;done)|(simp;omega)) ty24 ty5) (Od rfl rfl (Lap rfl rfl (Sso rfl rfl (by_from (l:=l) (k:=k) (m:=l.length - k) (by omega))) rfl (by rw [← bytesC_1,← bytesC_app];exact bytes_tk (l:=l.take k++[IntKind.u8.wrap b]) (by rw [List.length_append,hkt];simp)) ty24 ty24 ty5 (by decide) (by omega) (by omega) (by decide)) (qA rfl rfl (Nl ⟨by kernel_rfl,?_⟩)))))))))))))))))))))))))))))))))))))))))))))))))))))))))))))))))))))
      rw [hv]
      refine Wy (t:=6) rfl rfl (cs:=bytesC (l.take k++[v])++bytesC (l.drop k)) (by rw [← bytesC_app];exact bytes_tk (l:=l.take k++[v]++l.drop k) (by rw [List.length_append,List.length_append,hkt,hkd];rfl)) (bytesC_pure _) ?_
      refine W.ret ⟨.inl rfl,_,mt,(RVs.cons (RV.tmp rfl) RVs.nil),(by (repeat' (first|exact all_mt|refine all_up ?_ ?_))<;>rfl),?_⟩
      exact ⟨by rw [List.length_append,List.length_append,hkt,hkd];rfl,rfl⟩
    · refine ⟨l.take k,⟨hB.take k,by omega⟩,?_⟩
      refine AFn.eq Tryz.func7 rfl rfl (Nat.le_of_ble_eq_true rfl) (Wq (qW 0 1 rfl rfl rfl (qA rfl rfl (Nl (Wq (qW 5 8 rfl rfl rfl (qM rfl rfl (Od rfl rfl (Lan rfl rfl (Ssi rfl rfl (by simp [bytesC_len])) ty24 ty24 ty5 (by decide) (by omega) (by omega) (by decide)) (qA rfl rfl (Nl (Wq (Wq (qW 12 15 rfl rfl rfl (qM rfl rfl (Od rfl rfl (LO.len rfl rfl ty24) (qE rfl rfl rfl (Nl (Wf rfl ‹_› (Wk (Wq (qW 27 32 rfl rfl rfl (qM rfl rfl (qM rfl rfl (Od rfl rfl (LO.len rfl rfl ty24) (Od rfl rfl (C0 (fr:=[]) rfl rfl (hm1) fok22 (.cons rfl (.pure rfl) (.cons rfl (.pure rfl) .nil)) rfl) (qA rfl rfl (Nl (Wq (Wq (qW 36 39 rfl rfl rfl (qM rfl rfl (Od rfl rfl (LO.quo rfl rfl rfl (by decide)) (Od rfl rfl (C0 (fr:=[]) rfl rfl (hm2) fok22 (.cons rfl (.pure rfl) (.cons rfl (.pure rfl) .nil)) rfl) (Nl (Wb (Wq (qW 43 45 rfl rfl rfl (qE rfl rfl rfl (qA rfl rfl (Nl (Wf rfl (rfl) (Wq (qW 59 61 rfl rfl rfl (qE rfl rfl rfl (qA rfl rfl (Nl (Wf rfl (rfl) (Wq (qW 78 80 rfl rfl rfl (qE rfl rfl rfl (qA rfl rfl (Nl (Wf rfl (rfl) (Wq (qW 101 105 rfl rfl rfl (qM rfl rfl (qM rfl rfl (Od rfl rfl (LO.slice rfl rfl Bnd.no (Ba rfl rfl) (by first|omega|decide|assumption|(simp;done)|(simp;omega)) (by first|omega|decide|assumption|(simp;done)|(simp;omega)) ty24 ty5) (qA rfl rfl (Nl (Wy (t:=6) rfl rfl (by_take (by omega)) (bytesC_pure _) ?_)))))))))))))))))))))))))))))))))))))))))))))))))))))))))))))
      refine W.ret ⟨.inl rfl,_,mt,(RVs.cons (RV.tmp rfl) RVs.nil),(by (repeat' (first|exact all_mt|refine all_up ?_ ?_))<;>rfl),?_⟩
      exact ⟨by rw [hkt];rfl,rfl⟩
end Go.Proofs.YtcidmiacfjdepaaGreatDoor
